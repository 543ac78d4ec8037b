/- Merged. -/
import Derived.Test.YthblobahelfefaaGreatDoorGAutoD
import Derived.Lib.Bytealg
import Derived.Laws.Externs
import Derived.Test.YthblobahelfefaaGreatDoorGFun
set_option linter.unusedSimpArgs false
set_option linter.unusedVariables false
namespace Go.Ct
open Go Go.RowKit
section
variable{P:Program}{S:List (Nat×Value)}{w0 w:World}{M:List Nat}{H:List (Nat×Obj)}{A F:Fr}{O:List Ow}
def rU(a b:ByteArray):Int:=Lib.compareBytes a.data.toList b.data.toList
variable{a b:ByteArray}{x:Operand}{f:FuncId}{at_:Array TypeId}{vs:List Value}{d:Nat}{ty:TypeId}{pos:String}{af:Array Edge}{gd:Option (Nat×Bool)}{v:Value}
theorem aBL:∀a b:List UInt8,Lib.compareBytes a b<0↔Op.bytesLess a b=true
 | [],[]=>by simp[Lib.compareBytes,Op.bytesLess]
 | [],_::_=>by simp[Lib.compareBytes,Op.bytesLess]
 | _::_,[]=>by simp[Lib.compareBytes,Op.bytesLess]
 | x::a,y::b=>by
  have ih:=aBL a b;simp only[Lib.compareBytes,Op.bytesLess];by_cases h:x<y;·simp[h]
  ·by_cases h2:y<x
   ·have:x≠y:=λ e=>by subst e;exact h h2
    simp[h,h2,this]
   ·have:x=y:=UInt8.le_antisymm (UInt8.not_lt.1 h2) (UInt8.not_lt.1 h);subst this;simpa[h] using ih
theorem aBC:∀a b:List UInt8,Lib.compareBytes a b=0↔a=b
 | [],[]=>by simp[Lib.compareBytes]
 | [],_::_=>by simp[Lib.compareBytes]
 | _::_,[]=>by simp[Lib.compareBytes]
 | x::a,y::b=>by
  have ih:=aBC a b;simp only[Lib.compareBytes];by_cases h:x<y
  ·have:x≠y:=λ e=>by subst e;exact absurd h (UInt8.lt_irrefl _)
   simp[h,this]
  ·by_cases h2:y<x
   ·have:x≠y:=λ e=>by subst e;exact h h2
    simp[h,h2,this]
   ·have:x=y:=UInt8.le_antisymm (UInt8.not_lt.1 h2) (UInt8.not_lt.1 h);subst this;simpa[h] using ih
theorem sS:rU a b<0↔cG a b=true:=by unfold rU cG;rw[ByteArray.toList_eq,ByteArray.toList_eq];exact aBL _ _
theorem Fk:¬rU a b<0↔cG a b=false:=by rw[sS];simp
theorem Yu:rU a b=0↔a=b:=by unfold rU;rw[aBC];exact⟨λ h=>toList_inj (by rw[ByteArray.toList_eq,ByteArray.toList_eq];exact h),λ h=>by rw[h]⟩
theorem dx{os:List Operand}{d:Option Nat}(hx:ev S x=.func (.func f) #[] #[])(hp:plain P f=true)(ha:lX S os=vs)(w:World) :
  (execOp (ev S) ⟨d,.call {callee:=.value x,args:=⟨os⟩,argTypes:=at_},ty,pos,af,gd⟩).run P w=.ok (.enter f ⟨vs⟩) w:=by
 subst ha;have hm:(os.map (ev S)).toArray=⟨lX S os⟩:=by rw[sE]
 simp[execOp,resolve,hx,Deferred.ofValue,invoke,nX hp,hm]
theorem aEW{xs:List Operand}{dst:Option Nat}(hx:ev S x=.func (.func f) #[] #[])(hp:plain P f=true)(ha:lX S xs=vs)(hc:∀w,SF w0 M H A F O w->Calls P f ⟨vs⟩ w λ e w'=>e=.returned v/\St w [] [] w') :
  aQ P S (SF w0 M H A F O) ⟨dst,.call {callee:=.value x,args:=⟨xs⟩,argTypes:=at_},ty,pos,af,gd⟩ Unit (λ _=>v) (λ _=>SF w0 M H A F O) :=
 gD (dx hx hp ha) λ w hw=>(hc w hw).mono λ _ _ ⟨he,hs⟩=>⟨(),he,by simpa using hw.call (SF.aB0 hs)⟩
theorem sf{G:World->Prop}{t t':TypeId}{y:Operand}{a:Int}{n:Nat}(hx:ev S x=.int .u64 a)(hy:ev S y=.int .u64 1)(h:a=(n:Int)) :
  aH P S G ⟨some d,.binOp .shr t x y t',ty,pos,af,gd⟩ (.int .u64 ((n/2:Nat):Int)):=by have:=Fs (P:=P) (G:=G) (d:=d) (ty:=ty) (pos:=pos) (af:=af) (gd:=gd) (t:=t) (t':=t') hx hy (by decide);rw[show mG .u64 a 1=((n/2:Nat):Int) by rw[h];unfold mG;show(n:Int).fdiv 2=_;rw[Int.fdiv_eq_ediv_of_nonneg _ (by decide)];rfl] at this;exact this
theorem qE{G:World->Prop}{k:Nat}(hx:ev S x=.tuple ⟨vs⟩)(hk:vs[k]?=some v):aH P S G ⟨some d,.extract x k,ty,pos,af,gd⟩ v:=⟨λ w _=>by simp[execOp,hx,Instr.extract,hk]⟩
@[reducible] def aB8 {p:Prop} {α:Type} (_:p) (a:α):α:=a
end
end Go.Ct
namespace Go.Proofs.YthblobahelfefaaGreatDoor
open Go.Proofs.Tryz
open Go.RowKit Go.Ct
section
variable{S:List (Nat×Value)}{ty:TypeId}{pos:String}{af:Array Edge}{gd:Option (Nat×Bool)}{x:Operand}{l:List Pr}{k:ByteArray}{h:Nat}
theorem si{G:World->Prop}{d:Nat}{y:Operand}{t t':TypeId}{a b:ByteArray}(hx:ev S x=.string a)(hy:ev S y=.string b) :
  aH prog S G ⟨some d,.call {callee:=.value (.func 295),args := #[x,y],argTypes := #[t,t']},ty,pos,af,gd⟩ (.int .i64 (rU a b)):=⟨λ w _=>by
 have:=run_callFunc_extern (P:=prog) (f:=295) func295 (by kernel_rfl) (by kernel_rfl) (by kernel_rfl) (e:=Extern.BytealgCompare.compare) (by kernel_rfl) #[.string a,.string b] w;rw[Lib.run_compareString] at this;simp only[execOp,resolve,ev,Deferred.ofValue,invoke]
 simp[hx,hy,this,Result.andThen,rU]⟩
theorem uc(a b:ByteArray)(w:World):Calls prog 269 #[.string a,.string b] w λ e w'=>e=.returned (.int .i64 (rU a b))/\St w [] [] w':=by refine enter func269 ntmps269 rfl rfl (SF.s0 w) ?_;simp only[bY];refine cC ?_;refine lV ?_;(refine aK (jL (si rf rf)) (λ x7=>?_));refine J1 ?_;refine aP results269 (λ w hw=>?_);exact⟨rfl,hw.done⟩
theorem S9(a b:ByteArray)(w:World):Calls prog 226 #[.string a,.string b] w λ e w'=>e=.returned (.int .i64 (rU a b))/\St w [] [] w':=by refine enter func226 ntmps226 rfl rfl (SF.s0 w) ?_;simp only[bY];refine cC ?_;refine lV ?_;refine aK (cV (hc:=λ w1 hw=>uc a b w1)) (λ x7=>?_);refine J1 ?_;refine aP results226 (λ w hw=>?_);exact⟨rfl,hw.done⟩
theorem M4(p:Pr)(k:ByteArray)(w:World):Calls prog 225 #[.agg ⟨[.string p.1,.int .u64 p.2]⟩,.string k] w λ e w'=>e=.returned (.int .i64 (rU p.1 k))/\St w [] [] w':=by refine enter func225 ntmps225 rfl rfl (SF.s0 w) ?_;simp only[bY];refine J0 ?_;refine bC (λ x2=>?_);refine J1 ?_;refine gP ?_;refine aD ?_;refine aK (cV (hc:=λ w1 hw=>S9 p.1 k w1)) (λ x8=>?_);refine J1 ?_;refine aP results225 (λ w hw=>?_);exact⟨rfl,hw.done⟩
theorem cVd{w0:World}{M:List Nat}{H:List (Nat×Obj)}{A F:Fr}{O:List Ow}{v:Value}{f:FuncId}{xs:List Operand}{at_:Array TypeId}{vs:List Value}{dst:Option Nat}(hx:ev S x=.func (.func f) #[] #[])(ha:lX S xs=vs)(hp:plain prog f=true)(hc:∀w,SF w0 M H A F O w->Calls prog f ⟨vs⟩ w λ e w'=>e=.returned v/\St w [] [] w') :
  aQ prog S (SF w0 M H A F O) ⟨dst,.call {callee:=.value x,args:=⟨xs⟩,argTypes:=at_},ty,pos,af,gd⟩ Unit (λ _=>v) (λ _=>SF w0 M H A F O):=aEW hx hp ha hc
theorem Zd(hs:SA l)(hh:h<l.length)(hc:cG (l.getD h (⟨#[]⟩,0)).1 k=true)(j:Nat)(hj:j<h+1):cG (l.getD j (⟨#[]⟩,0)).1 k=true:=by
 rcases Nat.lt_succ_iff_lt_or_eq.1 hj with h1|rfl;·have:=List.pairwise_iff_getElem.1 hs j h (by omega) hh h1;rw[<- iM,<- iM] at this;exact iT this hc
 ·exact hc
theorem Y9(hs:SA l)(hc:cG (l.getD h (⟨#[]⟩,0)).1 k=false)(j:Nat)(h1:h<=j)(hj:j<l.length):cG (l.getD j (⟨#[]⟩,0)).1 k=false:=by
 rcases Nat.lt_or_eq_of_le h1 with h2|rfl;·have:=List.pairwise_iff_getElem.1 hs h j (by omega) hj h2;rw[<- iM,<- iM] at this;exact nj hc (vS this)
 ·exact hc
theorem Zy{a:Option Addr}{c:Nat}{w:World}(ha:Cl w a (cY l))(hs:SA l)(hlen:l.length<=1099511627776) :
  Calls prog 224 #[.slice a l.length c,.string k,.func (.func 225) #[] #[]] w λ e w'=>∃i:Nat,e=.returned (.tuple #[.int .i64 (i:Int),.bool (decide (i<l.length/\(l.getD i (⟨#[]⟩,0)).1=k))])/\uX l k i/\St w [] [] w':=by
 refine enter func224 ntmps224 rfl rfl (SF.s1 ha) ?_;simp only[bY];refine Pa ?_;refine J2 ?_;refine cZ ?_;refine Kb7 ?_;refine J8 ?_;refine Np ?_;refine iI [9,10,11,15,16,17,18,19,20,21,22,23,24,25,26,27,28,29,30,31,32,33,34] (λ x:Nat×Nat=>[(9,.int .i64 ((x.1:Nat):Int)),(10,.int .i64 ((x.2:Nat):Int))]) (λ x=>x.1<=x.2/\x.2<=l.length/\(∀j,j<x.1->cG (l.getD j (⟨#[]⟩,0)).1 k=true)/\(∀j,x.2<=j->j<l.length->cG (l.getD j (⟨#[]⟩,0)).1 k=false)) (λ x=>x.2-x.1) ((0,l.length)) (⟨Nat.zero_le _,Nat.le_refl _,λ j hj=>absurd hj (Nat.not_lt_zero j),λ j h1 h2=>by omega⟩) ?_ (λ x f hx=>?_);·repeat (first|exact bH _|refine aY (by exact rfl) ?_)
 refine K0a ?_;refine Ir ?_;refine pD ?_;refine aX (λ c17=>?_) (λ c17=>?_)
 ·refine K0h ?_;intro x30;refine aX (λ c31=>?_) (λ c31=>?_)
  ·refine J70 ?_;refine eX ?_;refine eO ((by exact aB8 (p:=rU _ _<0) c31 ((x.1+x.2)/2+1,x.2))) ?_ ?_ ?_;·(simp only[];omega)
   ·repeat' (first|exact bH _|refine aY ?_ ?_)
    all_goals (exact rfl)
   ·obtain⟨q1,q2,q3,q4⟩:=hx
    first
    | exact⟨by show(x.1+x.2)/2+1<=x.2;omega,q2,Zd hs (by omega) (sS.1 c31),q4⟩
    | exact⟨by show x.1<=(x.1+x.2)/2;omega,by show(x.1+x.2)/2<=l.length;omega,q3,Y9 hs (Fk.1 c31)⟩
  ·refine Js ?_;refine J1 ?_;refine eX ?_;refine eO ((by exact(x.1,(x.1+x.2)/2))) ?_ ?_ ?_;·omega
   ·repeat' (first|exact bH _|refine aY ?_ ?_)
    all_goals (exact rfl)
   ·obtain⟨q1,q2,q3,q4⟩:=hx
    first
    | exact⟨by show(x.1+x.2)/2+1<=x.2;omega,q2,Zd hs (by omega) (sS.1 c31),q4⟩
    | exact⟨by show x.1<=(x.1+x.2)/2;omega,by show(x.1+x.2)/2<=l.length;omega,q3,Y9 hs (Fk.1 c31)⟩
 ·refine K1o ?_;refine lV ?_;refine aD ?_;refine Q9 ?_;(refine kT 39 (λ g39=>?_) (λ g39=>?_)<;>refine Ka0 ?_);all_goals (refine Ka0 ?_;refine Ka0 ?_;(first|refine bG ?_|(refine aG ?_;refine gS ?_));refine J29 ?_;((first|refine bG ?_|(refine aG ?_;(refine aK (by(exact cVd (v:=.int .i64 (rU (l.getD x.1 (⟨#[]⟩,0)).1 k)) rf (by(repeat (first|exact bK _|(apply aZ;focus ((conv=>{lhs;whnf});try exact rfl))));done) (by kernel_rfl) (λ w1 hw=>M4 _ k w1))) (λ x46=>?_)))));refine Ja ?_;refine J8 ?_)
  all_goals
  refine bJ results224 (λ w hw=>?_);obtain⟨q1,q2,q3,q4⟩:=hx;refine⟨x.1,?_,⟨by omega,q3,λ j h1 h2=>q4 j (by omega) h2⟩,hw.done⟩
  first
  | (rw[show(rU (l.getD x.1 (⟨#[]⟩,0)).1 k==0)=decide (x.1<l.length/\(l.getD x.1 (⟨#[]⟩,0)).1=k) by rw[Bool.eq_iff_iff];simp only[beq_iff_eq,decide_eq_true_eq,Yu];exact⟨λ h=>⟨by omega,h⟩,λ h=>h.2⟩];rfl)
  | (rw[show decide (x.1<l.length/\(l.getD x.1 (⟨#[]⟩,0)).1=k)=false from decide_eq_false (by omega)];rfl)
end
end Go.Proofs.YthblobahelfefaaGreatDoor
namespace Go.Ct
open Go Go.RowKit
section
section
variable{P:Program}{n:Nat}{S:List (Nat×Value)}
variable{w0 w w':World}{M:List Nat}{H H':List (Nat×Obj)}{A F F':Fr}{O O':List Ow}{G:World->Prop}
variable{d:Nat}{ty:TypeId}{pos:String}{af:Array Edge}{gd:Option (Nat×Bool)}{dst:Option Nat}{x y z:Operand}{t t2 e:TypeId}{p a:Option Addr}{i m k c c2:Nat}
def tlP(a:Option Addr)(k c:Nat):Option Addr:=if c=k then a else a.map (·.add (2*k))
theorem Sn(hx:ev S x=.slice a m c)(hy:ev S y=.int .i64 ((k:Nat):Int))(ht:P.underlying t=some (.slice e))(hs:(P.info? e).map (·.size)=some 2)(hk:k<=m)(hmc:m<=c) :
  aH P S G ⟨some d,.slice t x (some y) none none,ty,pos,af,gd⟩ (.slice (tlP a k c) (m-k) (c-k)):=⟨λ w _=>by
 have he:P.elem t=e:=by simp[Program.elem,ht]
 have ht':P.underlying t=some (.slice (P.elem t)):=by rw[he];exact ht
 cases hi:P.info? e with
 | none=>simp[hi] at hs
 | some inf=>
  have hs':inf.size=2:=by simpa[hi] using hs
  have hr:=run_slice_l (P:=P) w t a m c ht' .i64 (k:Int) (by omega) (by omega);refine jy (v:=.slice (tlP a k c) (m-k) (c-k)) ?_;simp[hx,hy,run_sliceAt_slice w t _ _ _ _ ht',hr,he,sizeOf,typeInfo,hi,hs',sliced,tlP,Nat.mul_comm]⟩
theorem SF.aE1(h:SF w0 M H A F O w){l:List Pr}(hf:pB A F [] a (cY l))(hc:l.length<=c):SF w0 M H ((tlP a k c,cY (l.drop k))::A) F O w:=by
 have e:cY (l.drop k)=(cY l).drop (2*k):=by rw[Fu]
 rw[e];refine h.Gy hf (λ hn=>?_) (λ h=>by rw[h];simp) (λ w hc'=>?_)
 ·unfold tlP;split;·rfl
  ·cases a with
   | none=>rfl
   | some a=>obtain⟨b,o,s⟩:=a;simp only[Option.map_some,cI,Addr.add];split<;>rfl
 ·unfold tlP;split;·rename_i heq;have:(cY l).drop (2*k)=[]:=List.drop_eq_nil_of_le (by rw[fA];omega);rw[this];exact Cl.nil _ _
  ·exact hc'.drop _
theorem SF.aER(h:SF w0 M H A F O w){l:List Pr}(hf:pB A F [] a (cY l)):SF w0 M H ((a,cY (l.take k))::A) F O w:=by
 have e:cY (l.take k)=(cY l).take (2*k):=by rw[vG]
 rw[e];exact h.Gy hf (λ _=>rfl) (λ h=>by rw[h];simp) (λ w hc=>hc.take (List.take_prefix _ _))
theorem pf{b:Nat}(hx:ev S x=.slice (some ⟨b,0,none⟩) m c)(hy:ev S y=.int .i64 ((k:Nat):Int))(ht:P.underlying t=some (.slice e))(hs:(P.info? e).map (·.size)=some 2)(hk:k<=m)(hmc:m<=c) :
  aH P S G ⟨some d,.slice t x (some y) none none,ty,pos,af,gd⟩ (.slice (some ⟨b,2*(if c=k then 0 else k),none⟩) (m-k) (c-k)):=by
 have:=Sn (P:=P) (G:=G) (d:=d) (ty:=ty) (pos:=pos) (af:=af) (gd:=gd) hx hy ht hs hk hmc
 rw[show tlP (some ⟨b,0,none⟩) k c=some ⟨b,2*(if c=k then 0 else k),none⟩ by
  unfold tlP;split;·rfl
  ·simp[Addr.add_lit]] at this
 exact this
end
end
end Go.Ct
namespace Go.Proofs.YthblobahelfefaaGreatDoor
open Go.Proofs.Tryz
open Go.RowKit Go.Ct
section
section
variable{l:List Pr}{a:Option Addr}{c:Nat}{k:ByteArray}{v:Int}{w:World}
theorem V9(ha:Cl w a (cY l))(hs:SA l)(hlen:l.length<=1099511627775) :
  Calls prog 183 #[.slice a l.length c,.string k] w λ e w'=>∃i:Nat,e=.returned (.tuple #[.int .i64 (i:Int),.bool (decide (i<l.length/\(l.getD i (⟨#[]⟩,0)).1=k))])/\uX l k i/\St w [] [] w':=by refine enter func183 ntmps183 rfl rfl (SF.s1 ha) ?_;simp only[bY];refine Pa ?_;refine lV ?_;refine aJ (c0 (V:=λ i:Nat=>.tuple #[.int .i64 (i:Int),.bool (decide (i<l.length/\(l.getD i (⟨#[]⟩,0)).1=k))]) (hc:=λ w1 hw=>Zy (hw.cl fin) hs (by omega))) (λ x8 h8=>?_);refine K0v ?_;refine bJ results183 (λ w hw=>?_);exact⟨x8,rfl,h8,hw.done⟩
def cU(l:List Pr)(k:ByteArray):Option Int:=if SA l then tR l k else none
def Jo(l:List Pr)(k:ByteArray)(v:Int):List Pr:=if SA l then pE l k v else []
theorem gv(k:ByteArray)(ha:Cl w a (cY l))(hlen:l.length<=1099511627775) :
  Calls prog 148 #[.slice a l.length c,.string k] w λ e w'=>e=.returned (.tuple #[.int .u64 ((cU l k).getD 0),.bool (cU l k).isSome])/\St w [] [] w':=by
 refine enter func148 ntmps148 rfl rfl (SF.s1 ha) ?_;simp only[bY];refine Pa ?_;refine jF ?_;refine aJ (c0 (V:=.bool) (hc:=λ w1 hw=>wG (hw.cl fin) (by omega))) (λ x9 h9=>?_);refine pG ?_;refine aX (λ c10=>?_) (λ c10=>?_);·refine Pa ?_;refine bJ results148 (λ w hw=>?_);rw[show cU l k=none from if_neg λ hs=>by rw[h9.2 (Cb.2 hs)] at c10;cases c10];exact⟨rfl,hw.done⟩
 ·have hs:SA l:=Cb.1 (h9.1 (by simpa using c10));refine Ix ?_;refine aJ (c0 (V:=λ i:Nat=>.tuple #[.int .i64 (i:Int),.bool (decide (i<l.length/\(l.getD i (⟨#[]⟩,0)).1=k))]) (hc:=λ w1 hw=>V9 (hw.cl fin) hs hlen)) (λ x14 h14=>?_);refine aD ?_;refine K0v ?_;refine jF ?_;refine pG ?_;refine aX (λ c18=>?_) (λ c18=>?_)
  ·refine Pa ?_;refine bJ results148 (λ w hw=>?_);have hnf:¬(x14<l.length/\(l.getD x14 (⟨#[]⟩,0)).1=k):=by simpa using c18
   rw[show cU l k=none from(if_pos hs).trans (nJ (B7 hs h14 hnf))];exact⟨rfl,hw.done⟩
  ·have hfd:x14<l.length/\(l.getD x14 (⟨#[]⟩,0)).1=k:=by simpa using c18
   have hx14:=hfd.1;refine Ix ?_;refine gS ?_;refine J3 ?_;refine J8 ?_;refine bJ results148 (λ w hw=>?_);rw[show cU l k=some (l.getD x14 (⟨#[]⟩,0)).2 from(if_pos hs).trans (Ce h14 hfd.1 hfd.2)];exact⟨rfl,hw.done⟩
def aAi(w:World)(m:List Pr)(e:Ending)(w':World):Prop:=∃x:Option Addr×Nat,e=.returned (.slice x.1 m.length x.2)/\m.length<=x.2/\SF w [] [] [] [] [⟨x.1,cY m,x.2,162,2⟩] w'
variable{i n:Nat}{z p:Pr}
theorem jh{l:List Pr}(hi:i<=l.length)(hn:i<=n) :
  (List.replicate n z).take 0++(l.take i).take (min i n)++(List.replicate n z).drop (0+min i n)=l.take i++List.replicate (n-i) z:=by rw[show min i n=i by omega,List.take_take,Nat.min_self,Nat.zero_add,List.take_zero,List.nil_append,List.drop_replicate]
theorem aA4{l:List Pr}(hi:i<=l.length)(hn:i+1<=n):(l.take i++List.replicate (n-i) z).set i p=l.take i++p::List.replicate (n-1-i) z:=by rw[List.set_append_right _ _ E0p,List.length_take,Nat.min_eq_left hi,Nat.sub_self,show n-i=(n-1-i)+1 by omega,List.replicate_succ,List.set_cons_zero]
theorem az{l:List Pr}{q:Nat}(hi:i<=l.length)(hq:q=if l.length+1=i+1 then 0 else i+1) :
  (l.take i++p::List.replicate (l.length-i) z).take q++(l.drop i).take (min (l.length-i) (l.length+1-(i+1)))++(l.take i++p::List.replicate (l.length-i) z).drop (q+min (l.length-i) (l.length+1-(i+1)))=l.take i++p::l.drop i:=by
 rw[show min (l.length-i) (l.length+1-(i+1))=l.length-i by omega];by_cases h:l.length=i;·subst h;rw[if_pos rfl] at hq;subst hq;simp
 ·rw[if_neg (by omega)] at hq;subst hq;rw[List.take_append,List.take_of_length_le (l:=l.take i) E0p,List.length_take,Nat.min_eq_left hi,show i+1-i=1 by omega];rw[List.take_of_length_le (l:=l.drop i) (by rw[List.length_drop];omega)];have e:(l.take i++p::List.replicate (l.length-i) z).drop (i+1+(l.length-i))=[]:=List.drop_eq_nil_of_le (by rw[List.length_append,List.length_take,List.length_cons,List.length_replicate];omega);rw[e,List.append_nil,List.take_succ_cons,List.take_zero,List.append_assoc];rfl
theorem aAM(k:ByteArray)(v:Int)(ha:Cl w a (cY l))(hc:l.length<=c)(hlen:l.length<=1099511627775) :
  Calls prog 282 #[.slice a l.length c,.string k,.int .u64 v] w (aAi w (Jo l k v)):=by
 refine enter func282 ntmps282 rfl rfl (SF.s1 ha) ?_;simp only[bY];refine Ka5 ?_;refine aJ (c0 (V:=.bool) (hc:=λ w1 hw=>wG (hw.cl fin) (by omega))) (λ x12 h12=>?_);refine pG ?_;refine aX (λ c13=>?_) (λ c13=>?_);·refine cC ?_;refine aP results282 (λ w hw=>?_);rw[show Jo l k v=[] from if_neg λ hs=>by rw[h12.2 (Cb.2 hs)] at c13;cases c13];exact⟨(none,0),rfl,Nat.le_refl _,(hw.gN 162 2).eP⟩
 ·have hs:SA l:=Cb.1 (h12.1 (by simpa using c13));refine Ix ?_;refine aJ (c0 (V:=λ i:Nat=>.tuple #[.int .i64 (i:Int),.bool (decide (i<l.length/\(l.getD i (⟨#[]⟩,0)).1=k))]) (hc:=λ w1 hw=>V9 (hw.cl fin) hs hlen)) (λ x17 h17=>?_);refine aD ?_;refine K0v ?_;refine jF ?_;refine aC ?_;refine aX (λ c20=>?_) (λ c20=>?_)
  ·have hfd:x17<l.length/\(l.getD x17 (⟨#[]⟩,0)).1=k:=by simpa using c20
   have hx17:=hfd.1;refine J2 ?_;refine cZ ?_;refine vH (λ x23=>?_);refine P2 ?_;(refine aK (aQ.iN (Hr rf rf tD fin (by(simp;done)) (by exact rfl) fU (by exact mX rfl)) E1a) (λ x26=>?_));refine aC ?_;refine lV ?_;refine aD ?_;refine gS ?_;refine aF ?_;refine aM (by(exact aQ.iN (Ld rf rf iH tD (by omega)) E1a)) (λ _=>?_);refine aC ?_;refine Kc4 ?_;refine aP results282 (λ w hw=>?_);rw[show Jo l k v=l.set x17 ((l.getD x17 (⟨#[]⟩,0)).1,v) from(if_pos hs).trans (Ln h17 hfd.1 hfd.2)];exact⟨(some ⟨x23,0,none⟩,l.length),by rw[List.length_set];rfl,by rw[List.length_set];exact Nat.le_refl _,hw.eP⟩
  ·have hnf:¬(x17<l.length/\(l.getD x17 (⟨#[]⟩,0)).1=k):=by simpa using c20
   have hpl:=h17.le;have hq1:(List.take x17 l++List.replicate (l.length+1-x17) ((⟨#[]⟩:ByteArray),(0:Int))).length=l.length+1:=by rw[List.length_append,List.length_take,List.length_replicate];omega
   refine rY (λ w hw=>(hw.aER (k:=x17) fin).aE1 (k:=x17) (c:=c) fin hc) ?_;refine Kc6 ?_;refine cZ ?_;refine sZ ?_;refine vH (λ x36=>?_);refine P2 ?_;refine aD ?_;refine aA (An rf rf fU (by exact Og rfl) (by omega)) rfl ?_;(refine aK (aQ.iN (Ff (q:=0) (l2:=l.take x17) rf rf tD fin rfl E0p (by rw[List.length_replicate];omega) fU (by exact mX rfl)) (by intro x;simp only[eL];rw[jh hpl (by omega)])) (λ x41=>?_));refine aC ?_;refine lV ?_;refine Jh ?_;refine bX ?_;refine gS ?_;refine aM (by(exact aQ.iN (Ft rf rf cW tD (by rw[List.length_append,List.length_take,List.length_replicate];omega)) (by intro x;simp only[eL];rw[aA4 hpl (by omega),Nat.add_sub_cancel]))) (λ _=>?_);refine Bz ?_;refine gL [0,1,2,3,4,5,6,7] ?_;refine Bx ?_;refine Zr ?_;refine dA (i:=3) (hq:=(by exact pf rf rf fU (by exact mX rfl) (by omega) (by omega))) (h:=?_);refine Bx ?_;refine dA (i:=6) (hq:=(by exact Sn rf rf fU (by exact mX rfl) (by omega) (by omega))) (h:=?_);(refine cB (i:=7) (hq:=(aQ.iN (Ff (q:=if l.length+1=x17+1 then 0 else x17+1) (l2:=l.drop x17) rf rf tD fin rfl (by rw[List.length_drop];omega) (by rw[List.length_append,List.length_take,List.length_cons,List.length_replicate];split<;>omega) fU (by exact mX rfl)) (by intro x;simp only[eL];rw[az hpl rfl]))) (h:=λ x55=>?_));refine dY ?_;refine Kc4 ?_;refine aP results282 (λ w hw=>?_);rw[show Jo l k v=l.take x17++(k,v)::l.drop x17 from(if_pos hs).trans (Zc h17 hnf)];exact⟨(some ⟨x36,0,none⟩,l.length+1),by rw[show(l.take x17++(k,v)::l.drop x17).length=l.length+1 by rw[List.length_append,List.length_take,List.length_cons,List.length_drop];omega];rfl,by rw[List.length_append,List.length_take,List.length_cons,List.length_drop];show _<=l.length+1;omega,hw.eP⟩
def aEP(w:World)(m:List Pr)(e:Ending)(w':World):Prop:=∃x:Option Addr×Nat,e=.returned (.slice x.1 m.length x.2)/\m.length<=x.2/\SF w [] [] [] [(x.1,cY m)] [] w'
theorem aAi.res{w:World}{m:List Pr}{e:Ending}{w':World}(h:aAi w m e w'):aEP w m e w':=by obtain⟨x,h1,h2,h3⟩:=h;exact⟨x,h1,h2,h3.freeze .head (by simp)⟩
theorem yt(k:ByteArray)(v:Int)(ha:Cl w a (cY l))(hc:l.length<=c)(hlen:l.length<=1099511627775) :
  Calls prog 282 #[.slice a l.length c,.string k,.int .u64 v] w (aEP w (Jo l k v)):=(aAM k v ha hc hlen).mono λ _ _ h=>h.res
end
end
section
section
variable{l:List Pr}{a:Option Addr}{c:Nat}{k:ByteArray}{v:Int}{w:World}
end
end
section
section
variable{l X:List Pr}{a:Option Addr}{c M:Nat}{k j:ByteArray}{v z:Int}{w:World}
theorem oz(h:SA X)(k:ByteArray):cU X k=tR X k:=if_pos h
theorem We(X:List Pr)(k:ByteArray)(v:Int):(Jo X k v).length<=X.length+1:=by
 unfold Jo;split;·next h=>rw[E8 h];split<;>omega
 ·exact Nat.zero_le _
end
end
end Go.Proofs.YthblobahelfefaaGreatDoor
namespace Go.Ct
open Go Go.RowKit
section
variable{n m i:Nat}
theorem lT(h:n<18446744073709551616):IntKind.u64.wrap ((n:Nat):Int)=(n:Int):=by
 have h2:IntKind.u64.wrap (n:Int)=(n:Int)%18446744073709551616:=by simp[IntKind.wrap,IntKind.signed,IntKind.bits]
 omega
theorem Dt(n:Nat)(h:n<18446744073709551616):(BitVec.ofInt IntKind.u64.bits (n:Int)).toNat=n:=by show(BitVec.ofInt 64 (n:Int)).toNat=n;rw[BitVec.toNat_ofInt];omega
theorem nI(hn:n<18446744073709551616)(hm:m<18446744073709551616):mA .u64 (n:Int) (m:Int)=((n &&& m:Nat):Int):=by unfold mA;rw[BitVec.toNat_and,Dt n hn,Dt m hm];exact lT (Nat.lt_of_le_of_lt Nat.and_le_left hn)
theorem zq(hn:n<18446744073709551616)(hm:m<18446744073709551616):rOr .u64 (n:Int) (m:Int)=((n ||| m:Nat):Int):=by unfold rOr;rw[BitVec.toNat_or,Dt n hn,Dt m hm];exact lT (Nat.or_lt_two_pow (n:=64) hn hm)
theorem lr(hn:n<18446744073709551616)(hm:m<18446744073709551616):aAg .u64 (n:Int) (m:Int)=((n ^^^ m:Nat):Int):=by unfold aAg;rw[BitVec.toNat_xor,Dt n hn,Dt m hm];exact lT (Nat.xor_lt_two_pow (n:=64) hn hm)
theorem nD(hi:i<=64):mG .u64 (n:Int) (i:Int)=((n >>> i:Nat):Int):=by
 unfold mG;rw[Int.toNat_natCast,show min i IntKind.u64.bits=i from Nat.min_eq_left hi,Nat.shiftRight_eq_div_pow];have:(2:Int)^i=((2^i:Nat):Int):=by simp
 rw[this,Int.fdiv_eq_ediv_of_nonneg _ (fQ _)];rfl
theorem Sw(hi:i<64):Kd .u64 1 (i:Int)=((2^i:Nat):Int):=by
 unfold Kd;rw[Int.toNat_natCast,show min i IntKind.u64.bits=i from Nat.min_eq_left (Nat.le_of_lt hi),Int.one_mul];have:(2:Int)^i=((2^i:Nat):Int):=by simp
 rw[this];refine lT ?_;have:=Nat.pow_lt_pow_right (a:=2) (by decide) hi;omega
def iD(n:Nat):Nat->Nat
 | 0=>0
 | k+1=>iD n k+if n.testBit k then 1 else 0
theorem Ck(n:Nat):∀k,iD n k<=k
 | 0=>Nat.le_refl _
 | k+1=>by have:=Ck n k;simp only[iD];split<;>omega
theorem Cz{n m:Nat}:∀{k:Nat},(∀i,i<k->n.testBit i=m.testBit i)->iD n k=iD m k
 | 0,_=>rfl
 | k+1,h=>by simp only[iD];rw[Cz λ i hi=>h i (Nat.lt_succ_of_lt hi),h k (Nat.lt_succ_self k)]
theorem F3:∀k,iD 0 k=0
 | 0=>rfl
 | k+1=>by simp[iD,F3 k]
theorem Zm(n:Nat)(a:Nat):∀k,iD n (a+k)=iD n a+iD (n >>> a) k
 | 0=>rfl
 | k+1=>by rw[<- Nat.add_assoc];simp only[iD,Zm n a k,Nat.testBit_shiftRight];omega
theorem lE{h l i:Nat}(hl:l<256):(256*h+l).testBit i=if i<8 then l.testBit i else h.testBit (i-8):=Nat.testBit_two_pow_mul_add h (i:=8) hl i
theorem ke{h l:Nat}(hl:l<256)(k:Nat):iD (256*h+l) (8+k)=iD l 8+iD h k:=by
 rw[Zm];congr 1;·exact Cz λ i hi=>by rw[lE hl,if_pos hi]
 ·rw[Nat.shiftRight_eq_div_pow,show 2^8=256 from rfl];congr 1;omega
theorem Cw{a b c d:Nat}(hb:b<256)(hd:d<256):(256*a+b) &&& (256*c+d)=256*(a &&& c)+(b &&& d):=by
 have hbd:b &&& d<256:=Nat.lt_of_le_of_lt Nat.and_le_left hb;refine Nat.eq_of_testBit_eq λ i=>?_;rw[Nat.testBit_and,lE hb,lE hd,lE hbd];split;·rw[Nat.testBit_and]
 ·rw[Nat.testBit_and]
theorem Lm{a b s:Nat}(hb:b<256)(hs:s<=8):(256*a+b) >>> s=256*(a >>> s)+((a%2^s)*2^(8-s)+b >>> s):=by
 simp only[Nat.shiftRight_eq_div_pow];have h1:256=2^s*2^(8-s):=by rw[<- Nat.pow_add];rw[show s+(8-s)=8 by omega]
 have h2:=Nat.div_add_mod a (2^s);have hp:0<2^s:=Nat.two_pow_pos s;have h3:256*a+b=2^s*(2^(8-s)*a)+b:=by rw[h1,Nat.mul_assoc]
 rw[h3,Nat.mul_add_div hp];have h4:2^(8-s)*a=256*(a/2^s)+a%2^s*2^(8-s):=by
  conv=>lhs;rw[<- h2]
  rw[h1,Nat.mul_add,Nat.mul_comm (a%2^s),<- Nat.mul_assoc,Nat.mul_comm (2^(8-s)) (2^s)]
 omega
def kU(s:Nat)(m:Nat)(n:Nat):Nat:=((n >>> s) &&& m)+(n &&& m)
theorem aAc{a b s d:Nat}(hb:b<256)(hs:s<=8)(hd:d<2^(8-s)):((a%2^s)*2^(8-s)+b >>> s) &&& d=(b >>> s) &&& d:=by
 have hbs:b >>> s<2^(8-s):=by rw[Nat.shiftRight_eq_div_pow];refine Nat.div_lt_of_lt_mul ?_;rw[<- Nat.pow_add,show s+(8-s)=8 by omega];exact hb
 refine Nat.eq_of_testBit_eq λ i=>?_;rw[Nat.testBit_and,Nat.testBit_and,Nat.mul_comm,Nat.testBit_two_pow_mul_add _ hbs];split;·rfl
 ·rename_i h;have:d.testBit i=false:=Nat.testBit_lt_two_pow (Nat.lt_of_lt_of_le hd (Nat.pow_le_pow_right (by decide) (by omega)));rw[this];simp
theorem H8{s m a b d:Nat}(hb:b<256)(hs:s<=8)(Jv:0<s)(hd:d<2^(8-s)):kU s (256*m+d) (256*a+b)=256*kU s m a+kU s d b:=by
 have hd':d<256:=Nat.lt_of_lt_of_le hd (Nat.pow_le_pow_right (n:=2) (by decide) (show 8-s<=8 by omega));have hL:(a%2^s)*2^(8-s)+b >>> s<256:=by
  have h1:256=2^s*2^(8-s):=by rw[<- Nat.pow_add];rw[show s+(8-s)=8 by omega]
  have h2:a%2^s<2^s:=Nat.mod_lt _ (Nat.two_pow_pos s);have h3:b >>> s<2^(8-s):=by rw[Nat.shiftRight_eq_div_pow];refine Nat.div_lt_of_lt_mul ?_;rw[<- Nat.pow_add,show s+(8-s)=8 by omega];exact hb
  have h4:(a%2^s+1)*2^(8-s)<=2^s*2^(8-s):=Nat.mul_le_mul_right _ h2;rw[Nat.add_mul,Nat.one_mul] at h4;omega
 unfold kU;rw[Lm hb hs,Cw hL hd',Cw hb hd',aAc hb hs hd];omega
def aBs(l:Nat):Nat:=(((kU 2 51 (kU 1 85 l)) >>> 4)+kU 2 51 (kU 1 85 l)) &&& 15
theorem z6:∀l,l<256->kU 1 85 l<256/\kU 2 51 (kU 1 85 l)<256/\kU 2 51 (kU 1 85 l)%16<=4/\kU 2 51 (kU 1 85 l)/16<=4/\aBs l=iD l 8:=by decide +kernel
def Fp(d:Nat):Nat->Nat
 | 0=>0
 | k+1=>256*Fp d k+d
theorem Ih:∀(k n:Nat),n<256^k ->
  ∃r,(∀q,q=(kU 2 (Fp 51 k) (kU 1 (Fp 85 k) n))->(((q >>> 4)+q) &&& Fp 15 k)=r/\q<256^k/\q%16<=4)/\(∃ps:List Nat,ps.length=k/\(∀p∈ps,p<=8)/\r=ps.foldr (λ p acc=>p+256*acc) 0/\ps.sum=iD n (8*k))
 | 0,n,h=>⟨0,λ q hq=>by
   have h0:n=0:=by simpa using h
   subst h0
   subst hq
   simp[kU,Fp],[],rfl,by simp,rfl,by simp[iD]⟩
 | k+1,n,h=>by
  have hl:n%256<256:=Nat.mod_lt _ (by decide)
  have hn:n=256*(n/256)+n%256:=(Nat.div_add_mod n 256).symm
  have hk:n/256<256^k:=by
   refine Nat.div_lt_of_lt_mul ?_
   rw[Nat.mul_comm,<- Nat.pow_succ];exact h
  obtain⟨r,h1,ps,h2,h3,h4,h5⟩:=Ih k (n/256) hk
  obtain⟨b1,b2,b3,b4,b5⟩:=z6 (n%256) hl
  obtain⟨q1,q2,q3⟩:=h1 _ rfl
  generalize hQ:kU 2 (Fp 51 k) (kU 1 (Fp 85 k) (n/256))=Q at *
  refine⟨256*r+iD (n%256) 8,λ q hq=>?_,iD (n%256) 8::ps,by simp[h2],?_,?_,?_⟩
  ·have e:q=256*Q+kU 2 51 (kU 1 85 (n%256)):=by
    rw[hq]
    have e0:kU 1 (Fp 85 (k+1)) n=256*kU 1 (Fp 85 k) (n/256)+kU 1 85 (n%256):=by
     have:=H8 (s:=1) (m:=Fp 85 k) (a:=n/256) hl (by decide) (by decide) (show 85<2^(8-1) by decide)
     rw[<- hn] at this
     exact this
    rw[e0,<- hQ]
    exact H8 (s:=2) (m:=Fp 51 k) b1 (by decide) (by decide) (show 51<2^(8-2) by decide)
   generalize hB:kU 2 51 (kU 1 85 (n%256))=B at *
   have hones:((B >>> 4)+B) &&& 15=iD (n%256) 8:=by rw[<- b5,aBs,hB]
   have e4:q >>> 4=256*(Q >>> 4)+((Q%16)*16+B >>> 4):=by rw[e];exact Lm (s:=4) b2 (by decide)
   have eB:B >>> 4=B/16:=by rw[Nat.shiftRight_eq_div_pow]
   have hlow:(Q%16)*16+B >>> 4+B<256:=by rw[eB];omega
   have hsum:q >>> 4+q=256*(Q >>> 4+Q)+((Q%16)*16+B >>> 4+B):=by rw[e4,e];omega
   refine⟨?_,?_,?_⟩
   ·rw[hsum]
    show(256*(Q >>> 4+Q)+_) &&& (256*Fp 15 k+15)=_
    rw[Cw hlow (by decide),q1,<- hones]
    congr 1
    rw[Nat.and_two_pow_sub_one_eq_mod _ 4,Nat.and_two_pow_sub_one_eq_mod _ 4]
    omega
   ·rw[e,Nat.pow_succ];omega
   ·rw[e];omega
  ·intro p hp
   rcases List.mem_cons.1 hp with rfl|hp
   ·exact Ck _ 8
   ·exact h3 p hp
  ·simp only[List.foldr_cons,<- h4];omega
  ·rw[List.sum_cons,h5]
   conv=>rhs;rw[hn]
   rw[show 8*(k+1)=8+8*k by omega,ke hl]
end
section
variable{x a b r t1 t2 t3 p0 p1 p2 t4 t5 t6 t7 p3 p4 p5 p6 p7:Nat}
theorem aFU(ha:a<256)(h:x=a+256*b):x/256=b:=by omega
theorem aFW(ha:a<65536)(h:x=a+65536*b):x/65536=b:=by omega
theorem aFG(ha:a<4294967296)(h:x=a+4294967296*b):x/4294967296=b:=by omega
theorem bnd{t p s B:Nat}(e:t=p+256*s)(hp:p<=8)(hs:s<=B):t<=8+256*B:=by omega
theorem fa(e0:r=p0+256*t1)(e1:t1=p1+256*t2)(e2:t2=p2+256*t3):r+t1=((p0+p1)+256*(p1+p2))+65536*(t2+t3):=by omega
theorem ca(g0:p0<=8)(g1:p1<=8)(g2:p2<=8):(p0+p1)+256*(p1+p2)<65536:=by omega
theorem fb0(e2:t2=p2+256*t3)(e3:t3=p3+256*t4)(e4:t4=p4+256*t5)(e5:t5=p5+256*t6)(e6:t6=p6+256*t7):t2+t3+t4+t5=(p2+p3+p4+p5)+256*(p3+p4+p5+p6)+65536*(t4+t5+t6+t7):=by subst e6;omega
theorem fb(f4:r+t1=((p0+p1)+256*(p1+p2))+65536*(t2+t3))(e2:t2=p2+256*t3)(e3:t3=p3+256*t4)(e4:t4=p4+256*t5)(e5:t5=p5+256*t6)(e6:t6=p6+256*t7) :
  r+t1+(t2+t3)=((p0+p1+p2+p3)+256*(p1+p2+p3+p4)+65536*(p2+p3+p4+p5)+16777216*(p3+p4+p5+p6))+4294967296*(t4+t5+t6+t7):=by
 have h1:=fb0 e2 e3 e4 e5 e6;have h2:t2+t3=(p2+p3)+256*(t3+t4):=by clear h1 f4 e4 e5 e6;omega
 have h3:t3+t4=(p3+p4)+256*(t4+t5):=by clear h1 h2 f4 e2 e5 e6;omega
 clear e2 e3 e4 e5 e6;omega
theorem cb(g0:p0<=8)(g1:p1<=8)(g2:p2<=8)(g3:p3<=8)(g4:p4<=8)(g5:p5<=8)(g6:p6<=8):(p0+p1+p2+p3)+256*(p1+p2+p3+p4)+65536*(p2+p3+p4+p5)+16777216*(p3+p4+p5+p6)<4294967296:=by omega
theorem fc(b0:r<=8+256*(8+256*(8+256*(8+256*(8+256*(8+256*(8+256*8)))))))(b1:t1<=8+256*(8+256*(8+256*(8+256*(8+256*(8+256*8)))))):r+t1<9223372036854775808:=by omega
theorem fd(b0:r<=8+256*(8+256*(8+256*(8+256*(8+256*(8+256*(8+256*8)))))))(b1:t1<=8+256*(8+256*(8+256*(8+256*(8+256*(8+256*8))))))(b2:t2<=8+256*(8+256*(8+256*(8+256*(8+256*8)))))(b3:t3<=8+256*(8+256*(8+256*(8+256*8)))):r+t1+(t2+t3)<9223372036854775808:=by omega
theorem fe(g1:p1<=8)(g2:p2<=8)(g3:p3<=8)(g4:p4<=8)(g5:p5<=8)(g6:p6<=8)(b4:t4<=8+256*(8+256*(8+256*8)))(b5:t5<=8+256*(8+256*8))(b6:t6<=8+256*8)(b7:t7<=8) :
  (p1+p2+p3+p4)+256*(p2+p3+p4+p5)+65536*(p3+p4+p5+p6)+16777216*(t4+t5+t6+t7)+(t5+t6+t7)<36028797018963968:=by omega
theorem ff(e4:t4=p4+256*t5)(e5:t5=p5+256*t6)(e6:t6=p6+256*t7)(e7:t7=p7) :
  ((p0+p1+p2+p3)+256*(p1+p2+p3+p4)+65536*(p2+p3+p4+p5)+16777216*(p3+p4+p5+p6))+4294967296*(t4+t5+t6+t7)+(t4+t5+t6+t7) =
   (p0+p1+p2+p3+p4+p5+p6+p7)+256*((p1+p2+p3+p4)+256*(p2+p3+p4+p5)+65536*(p3+p4+p5+p6)+16777216*(t4+t5+t6+t7)+(t5+t6+t7)):=by
 have h:t4+t5+t6+t7=(p4+p5+p6+p7)+256*(t5+t6+t7):=by omega
 generalize t4+t5+t6+t7=s at *;clear e4 e5 e6 e7;omega
theorem l9(g0:p0<=8)(g1:p1<=8)(g2:p2<=8)(g3:p3<=8)(g4:p4<=8)(g5:p5<=8)(g6:p6<=8)(g7:p7<=8)(e0:r=p0+256*t1)(e1:t1=p1+256*t2)(e2:t2=p2+256*t3)(e3:t3=p3+256*t4)(e4:t4=p4+256*t5)(e5:t5=p5+256*t6)(e6:t6=p6+256*t7)(e7:t7=p7) :
  r+r/256<9223372036854775808/\(r+r/256)+(r+r/256)/65536<9223372036854775808/\∃K,K<36028797018963968/\((r+r/256)+(r+r/256)/65536)+((r+r/256)+(r+r/256)/65536)/4294967296=(p0+p1+p2+p3+p4+p5+p6+p7)+256*K:=by
 have b7:t7<=8:=by rw[e7];exact g7
 have b6:=bnd e6 g6 b7;have b5:=bnd e5 g5 b6;have b4:=bnd e4 g4 b5;have b3:=bnd e3 g3 b4;have b2:=bnd e2 g2 b3;have b1:=bnd e1 g1 b2;have b0:=bnd e0 g0 b1;have f4:r+t1=((p0+p1)+256*(p1+p2))+65536*(t2+t3):=fa e0 e1 e2;have c4:(p0+p1)+256*(p1+p2)<65536:=ca g0 g1 g2;have f5:r+t1+(t2+t3)=((p0+p1+p2+p3)+256*(p1+p2+p3+p4)+65536*(p2+p3+p4+p5)+16777216*(p3+p4+p5+p6))+4294967296*(t4+t5+t6+t7):=fb f4 e2 e3 e4 e5 e6;have c5:=cb g0 g1 g2 g3 g4 g5 g6;rw[aFU (Nat.lt_of_le_of_lt g0 (by decide)) e0,aFW c4 f4,aFG c5 f5];refine⟨fc b0 b1,fd b0 b1 b2 b3,(p1+p2+p3+p4)+256*(p2+p3+p4+p5)+65536*(p3+p4+p5+p6)+16777216*(t4+t5+t6+t7)+(t5+t6+t7),?_,?_⟩;·exact fe g1 g2 g3 g4 g5 g6 b4 b5 b6 b7
 ·rw[f5];exact ff e4 e5 e6 e7
end
section
theorem aBW{c K:Nat}(hc:c<=64)(hK:K<36028797018963968):mA .i64 (IntKind.i64.wrap ((c+256*K:Nat):Int)) 127=(c:Int):=by
 rw[wrap_i64 (by omega) (by omega)];unfold mA;have h1:(BitVec.ofInt IntKind.i64.bits ((c+256*K:Nat):Int)).toNat=c+256*K:=by show(BitVec.ofInt 64 ((c+256*K:Nat):Int)).toNat=_;rw[BitVec.toNat_ofInt];omega
 have h2:(BitVec.ofInt IntKind.i64.bits 127).toNat=127:=by decide
 rw[BitVec.toNat_and,h1,h2,show(127:Nat)=2^7-1 from rfl,Nat.and_two_pow_sub_one_eq_mod];have h3:(c+256*K)%2^7=c:=by omega
 rw[h3];exact wrap_i64 (by omega) (by omega)
theorem vY{n:Nat}(hn:n<18446744073709551616):Ef (n:Int)=((iD n 64:Nat):Int):=by
 obtain⟨r,h1,ps,h2,h3,h4,h5⟩:=Ih 8 n hn;obtain⟨q1,q2,_⟩:=h1 _ rfl;match ps,h2 with
 | [p0,p1,p2,p3,p4,p5,p6,p7],_=>
  simp only[List.mem_cons,List.not_mem_nil,or_false,forall_eq_or_imp,forall_eq] at h3;simp only[List.foldr_cons,List.foldr_nil] at h4;simp only[List.sum_cons,List.sum_nil] at h5;obtain⟨g0,g1,g2,g3,g4,g5,g6,g7⟩:=h3;have b5:kU 1 6148914691236517205 n<18446744073709551616:=by unfold kU;have h1:(n >>> 1) &&& 6148914691236517205<=6148914691236517205:=Nat.and_le_right;have h2:n &&& 6148914691236517205<=6148914691236517205:=Nat.and_le_right;omega
  have e1:∀m:Nat,m<18446744073709551616->IntKind.u64.wrap (mA .u64 (mG .u64 (m:Int) 1) 6148914691236517205+mA .u64 (m:Int) 6148914691236517205)=((kU 1 6148914691236517205 m:Nat):Int):=λ m hm=>by have hs:m >>> 1<18446744073709551616:=Nat.lt_of_le_of_lt (Nat.shiftRight_le _ _) hm;have r1:mG .u64 (m:Int) 1=((m >>> 1:Nat):Int):=nD (i:=1) (by decide);have a1:mA .u64 ((m >>> 1:Nat):Int) 6148914691236517205=(((m >>> 1) &&& 6148914691236517205:Nat):Int):=nI hs (m:=6148914691236517205) (by decide);have a2:mA .u64 (m:Int) 6148914691236517205=((m &&& 6148914691236517205:Nat):Int):=nI hm (m:=6148914691236517205) (by decide);rw[r1,a1,a2,<- Int.natCast_add];refine lT ?_;have h1:(m >>> 1) &&& 6148914691236517205<=6148914691236517205:=Nat.and_le_right;have h2:m &&& 6148914691236517205<=6148914691236517205:=Nat.and_le_right;omega
  have e2:∀m:Nat,m<18446744073709551616->IntKind.u64.wrap (mA .u64 (mG .u64 (m:Int) 2) 3689348814741910323+mA .u64 (m:Int) 3689348814741910323)=((kU 2 3689348814741910323 m:Nat):Int):=λ m hm=>by have hs:m >>> 2<18446744073709551616:=Nat.lt_of_le_of_lt (Nat.shiftRight_le _ _) hm;have r1:mG .u64 (m:Int) 2=((m >>> 2:Nat):Int):=nD (i:=2) (by decide);have a1:mA .u64 ((m >>> 2:Nat):Int) 3689348814741910323=(((m >>> 2) &&& 3689348814741910323:Nat):Int):=nI hs (m:=3689348814741910323) (by decide);have a2:mA .u64 (m:Int) 3689348814741910323=((m &&& 3689348814741910323:Nat):Int):=nI hm (m:=3689348814741910323) (by decide);rw[r1,a1,a2,<- Int.natCast_add];refine lT ?_;have h1:(m >>> 2) &&& 3689348814741910323<=3689348814741910323:=Nat.and_le_right;have h2:m &&& 3689348814741910323<=3689348814741910323:=Nat.and_le_right;omega
  have m5:Fp 85 8=6148914691236517205:=by decide
  have m3:Fp 51 8=3689348814741910323:=by decide
  have mf:Fp 15 8=1085102592571150095:=by decide
  rw[m5,m3] at q1 q2;rw[mf] at q1;unfold Ef;simp only[];rw[e1 n hn,e2 _ b5];generalize kU 2 3689348814741910323 (kU 1 6148914691236517205 n)=Q at *;have hQ:Q<18446744073709551616:=q2;have hr:r<18446744073709551616:=by rw[<- q1];exact Nat.lt_of_le_of_lt Nat.and_le_right (by decide)
  have e3:mA .u64 (IntKind.u64.wrap (mG .u64 (Q:Int) 4+(Q:Int))) 1085102592571150095=(r:Int):=by
   have r1:mG .u64 (Q:Int) 4=((Q >>> 4:Nat):Int):=nD (i:=4) (by decide);rw[r1,<- Int.natCast_add];have h2:IntKind.u64.wrap ((Q >>> 4+Q:Nat):Int)=(((Q >>> 4+Q)%18446744073709551616:Nat):Int):=by
    have:IntKind.u64.wrap ((Q >>> 4+Q:Nat):Int)=((Q >>> 4+Q:Nat):Int)%18446744073709551616:=by simp[IntKind.wrap,IntKind.signed,IntKind.bits]
    rw[this];omega
   rw[h2];have a1:=nI (n:=(Q >>> 4+Q)%18446744073709551616) (m:=1085102592571150095) (Nat.mod_lt _ (by decide)) (by decide);refine a1.trans ?_;rw[<- q1];congr 1;refine Nat.eq_of_testBit_eq λ i=>?_;rw[Nat.testBit_and,Nat.testBit_and,show(18446744073709551616:Nat)=2^64 from rfl,Nat.testBit_mod_two_pow];by_cases hi:i<64;·simp[hi]
   ·have:(1085102592571150095:Nat).testBit i=false:=Nat.testBit_lt_two_pow (Nat.lt_of_lt_of_le (by decide:(1085102592571150095:Nat)<2^64) (Nat.pow_le_pow_right (by decide) (by omega)));rw[this];simp
  rw[e3];have s1:∀m:Nat,mG .u64 (m:Int) 8=((m/256:Nat):Int):=λ m=>by have:mG .u64 (m:Int) 8=((m >>> 8:Nat):Int):=nD (i:=8) (by decide);rw[this,Nat.shiftRight_eq_div_pow]
  have s2:∀m:Nat,mG .u64 (m:Int) 16=((m/65536:Nat):Int):=λ m=>by have:mG .u64 (m:Int) 16=((m >>> 16:Nat):Int):=nD (i:=16) (by decide);rw[this,Nat.shiftRight_eq_div_pow]
  have s3:∀m:Nat,mG .u64 (m:Int) 32=((m/4294967296:Nat):Int):=λ m=>by have:mG .u64 (m:Int) 32=((m >>> 32:Nat):Int):=nD (i:=32) (by decide);rw[this,Nat.shiftRight_eq_div_pow]
  have w64:∀m:Nat,m<9223372036854775808->IntKind.u64.wrap ((m:Nat):Int)=(m:Int):=λ m hm=>lT (by omega)
  have hs:iD n 64=p0+p1+p2+p3+p4+p5+p6+p7:=by rw[show(64:Nat)=8*8 from rfl,<- h5];omega
  have hc:=Ck n 64;have hx:=l9 (t7:=p7) (t6:=p6+256*p7) (t5:=p5+256*(p6+256*p7)) (t4:=p4+256*(p5+256*(p6+256*p7))) (t3:=p3+256*(p4+256*(p5+256*(p6+256*p7)))) (t2:=p2+256*(p3+256*(p4+256*(p5+256*(p6+256*p7))))) (t1:=p1+256*(p2+256*(p3+256*(p4+256*(p5+256*(p6+256*p7)))))) (r:=r) g0 g1 g2 g3 g4 g5 g6 g7 (by rw[h4];rfl) rfl rfl rfl rfl rfl rfl rfl;clear h4 q1 q2 e3 e1 e2 b5 h1 hr hQ hn m5 m3 mf h5;obtain⟨x4,x5,K,hK,x6⟩:=hx;rw[s1,<- Int.natCast_add,w64 _ x4,s2,<- Int.natCast_add,w64 _ x5,s3,<- Int.natCast_add,x6,<- hs,w64 _ (by omega)];exact aBW hc hK
end
end Go.Ct
