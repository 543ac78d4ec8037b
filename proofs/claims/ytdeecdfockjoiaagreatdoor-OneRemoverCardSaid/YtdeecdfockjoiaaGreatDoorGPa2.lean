/- Merged. -/
import Derived.Test.YtdeecdfockjoiaaGreatDoorGSlices
import Derived.Lib.Bytealg
import Derived.Laws.Externs
import Derived.Test.YtdeecdfockjoiaaGreatDoorGFun
set_option linter.unusedSimpArgs false
set_option linter.unusedVariables false
namespace Go.Ct
open Go Go.RowKit
section
variable{P:Program}{S:List (Nat×Value)}{w0 w:World}{M:List Nat}{H:List (Nat×Obj)}{A F:Fr}{O:List Ow}
def tV(a b:ByteArray):Int:=Lib.compareBytes a.data.toList b.data.toList
variable{a b:ByteArray}{x:Operand}{f:FuncId}{at_:Array TypeId}{vs:List Value}{d:Nat}{ty:TypeId}{pos:String}{af:Array Edge}{gd:Option (Nat×Bool)}{v:Value}
theorem zk:∀a b:List UInt8,Lib.compareBytes a b<0↔Op.bytesLess a b=true
 | [],[]=>by simp[Lib.compareBytes,Op.bytesLess]
 | [],_::_=>by simp[Lib.compareBytes,Op.bytesLess]
 | _::_,[]=>by simp[Lib.compareBytes,Op.bytesLess]
 | x::a,y::b=>by
  have ih:=zk a b;simp only[Lib.compareBytes,Op.bytesLess];by_cases h:x<y;·simp[h]
  ·by_cases h2:y<x
   ·have:x≠y:=λ e=>by subst e;exact h h2
    simp[h,h2,this]
   ·have:x=y:=UInt8.le_antisymm (UInt8.not_lt.1 h2) (UInt8.not_lt.1 h);subst this;simpa[h] using ih
theorem yw:∀a b:List UInt8,Lib.compareBytes a b=0↔a=b
 | [],[]=>by simp[Lib.compareBytes]
 | [],_::_=>by simp[Lib.compareBytes]
 | _::_,[]=>by simp[Lib.compareBytes]
 | x::a,y::b=>by
  have ih:=yw a b;simp only[Lib.compareBytes];by_cases h:x<y
  ·have:x≠y:=λ e=>by subst e;exact absurd h (UInt8.lt_irrefl _)
   simp[h,this]
  ·by_cases h2:y<x
   ·have:x≠y:=λ e=>by subst e;exact h h2
    simp[h,h2,this]
   ·have:x=y:=UInt8.le_antisymm (UInt8.not_lt.1 h2) (UInt8.not_lt.1 h);subst this;simpa[h] using ih
theorem sR:tV a b<0↔dR a b=true:=by unfold tV dR;rw[ByteArray.toList_eq,ByteArray.toList_eq];exact zk _ _
theorem Gb:¬tV a b<0↔dR a b=false:=by rw[sR];simp
theorem Xr:tV a b=0↔a=b:=by unfold tV;rw[yw];exact⟨λ h=>toList_inj (by rw[ByteArray.toList_eq,ByteArray.toList_eq];exact h),λ h=>by rw[h]⟩
theorem aa{os:List Operand}{d:Option Nat}(hx:ev S x=.func (.func f) #[] #[])(hp:plain P f=true)(ha:nZ S os=vs)(w:World) :
  (execOp (ev S) ⟨d,.call {callee:=.value x,args:=⟨os⟩,argTypes:=at_},ty,pos,af,gd⟩).run P w=.ok (.enter f ⟨vs⟩) w:=by
 subst ha;have hm:(os.map (ev S)).toArray=⟨nZ S os⟩:=by rw[tE]
 simp[execOp,resolve,hx,Deferred.ofValue,invoke,pB hp,hm]
theorem aDU{xs:List Operand}{dst:Option Nat}(hx:ev S x=.func (.func f) #[] #[])(hp:plain P f=true)(ha:nZ S xs=vs)(hc:∀w,SF w0 M H A F O w->Calls P f ⟨vs⟩ w λ e w'=>e=.returned v/\St w [] [] w') :
  aW P S (SF w0 M H A F O) ⟨dst,.call {callee:=.value x,args:=⟨xs⟩,argTypes:=at_},ty,pos,af,gd⟩ Unit (λ _=>v) (λ _=>SF w0 M H A F O) :=
 iJ (aa hx hp ha) λ w hw=>(hc w hw).mono λ _ _ ⟨he,hs⟩=>⟨(),he,by simpa using hw.call (SF.aA8 hs)⟩
theorem j0{G:World->Prop}{t t':TypeId}{y:Operand}{a:Int}{n:Nat}(hx:ev S x=.int .u64 a)(hy:ev S y=.int .u64 1)(h:a=(n:Int)) :
  aN P S G ⟨some d,.binOp .shr t x y t',ty,pos,af,gd⟩ (.int .u64 ((n/2:Nat):Int)):=by have:=V9 (P:=P) (G:=G) (d:=d) (ty:=ty) (pos:=pos) (af:=af) (gd:=gd) (t:=t) (t':=t') hx hy (by decide);rw[show oK .u64 a 1=((n/2:Nat):Int) by rw[h];unfold oK;show(n:Int).fdiv 2=_;rw[Int.fdiv_eq_ediv_of_nonneg _ (by decide)];rfl] at this;exact this
theorem lT{G:World->Prop}{k:Nat}(hx:ev S x=.tuple ⟨vs⟩)(hk:vs[k]?=some v):aN P S G ⟨some d,.extract x k,ty,pos,af,gd⟩ v:=⟨λ w _=>by simp[execOp,hx,Instr.extract,hk]⟩
@[reducible] def aCq {p:Prop} {α:Type} (_:p) (a:α):α:=a
end
end Go.Ct
namespace Go.Proofs.YtdeecdfockjoiaaGreatDoor
open Go.Proofs.Tryz
open Go.RowKit Go.Ct
section
variable{S:List (Nat×Value)}{ty:TypeId}{pos:String}{af:Array Edge}{gd:Option (Nat×Bool)}{x:Operand}{l:List Pr}{k:ByteArray}{h:Nat}
theorem ig{G:World->Prop}{d:Nat}{y:Operand}{t t':TypeId}{a b:ByteArray}(hx:ev S x=.string a)(hy:ev S y=.string b) :
  aN prog S G ⟨some d,.call {callee:=.value (.func 297),args := #[x,y],argTypes := #[t,t']},ty,pos,af,gd⟩ (.int .i64 (tV a b)):=⟨λ w _=>by
 have:=run_callFunc_extern (P:=prog) (f:=297) func297 (by kernel_rfl) (by kernel_rfl) (by kernel_rfl) (e:=Extern.BytealgCompare.compare) (by kernel_rfl) #[.string a,.string b] w;rw[Lib.run_compareString] at this;simp only[execOp,resolve,ev,Deferred.ofValue,invoke]
 simp[hx,hy,this,Result.andThen,tV]⟩
theorem di(a b:ByteArray)(w:World):Calls prog 267 #[.string a,.string b] w λ e w'=>e=.returned (.int .i64 (tV a b))/\St w [] [] w':=by refine enter func267 ntmps267 rfl rfl (SF.s0 w) ?_;simp only[cN];refine eD ?_;refine lV ?_;(refine aH (kK (ig rf rf)) (λ x7=>?_));refine J1 ?_;refine bJ results267 (λ w hw=>?_);exact⟨rfl,hw.done⟩
theorem R6(a b:ByteArray)(w:World):Calls prog 218 #[.string a,.string b] w λ e w'=>e=.returned (.int .i64 (tV a b))/\St w [] [] w':=by refine enter func218 ntmps218 rfl rfl (SF.s0 w) ?_;simp only[cN];refine eD ?_;refine lV ?_;refine aH (cV (hc:=λ w1 hw=>di a b w1)) (λ x7=>?_);refine J1 ?_;refine bJ results218 (λ w hw=>?_);exact⟨rfl,hw.done⟩
theorem O6(p:Pr)(k:ByteArray)(w:World):Calls prog 217 #[.agg ⟨[.string p.1,.int .u64 p.2]⟩,.string k] w λ e w'=>e=.returned (.int .i64 (tV p.1 k))/\St w [] [] w':=by refine enter func217 ntmps217 rfl rfl (SF.s0 w) ?_;simp only[cN];refine J0 ?_;refine bC (λ x2=>?_);refine J1 ?_;refine Ke5 ?_;refine aH (cV (hc:=λ w1 hw=>R6 p.1 k w1)) (λ x8=>?_);refine J1 ?_;refine bJ results217 (λ w hw=>?_);exact⟨rfl,hw.done⟩
theorem cVd{w0:World}{M:List Nat}{H:List (Nat×Obj)}{A F:Fr}{O:List Ow}{v:Value}{f:FuncId}{xs:List Operand}{at_:Array TypeId}{vs:List Value}{dst:Option Nat}(hx:ev S x=.func (.func f) #[] #[])(ha:nZ S xs=vs)(hp:plain prog f=true)(hc:∀w,SF w0 M H A F O w->Calls prog f ⟨vs⟩ w λ e w'=>e=.returned v/\St w [] [] w') :
  aW prog S (SF w0 M H A F O) ⟨dst,.call {callee:=.value x,args:=⟨xs⟩,argTypes:=at_},ty,pos,af,gd⟩ Unit (λ _=>v) (λ _=>SF w0 M H A F O):=aDU hx hp ha hc
theorem Xh(hs:SA l)(hh:h<l.length)(hc:dR (l.getD h (⟨#[]⟩,0)).1 k=true)(j:Nat)(hj:j<h+1):dR (l.getD j (⟨#[]⟩,0)).1 k=true:=by
 rcases Nat.lt_succ_iff_lt_or_eq.1 hj with h1|rfl;·have:=List.pairwise_iff_getElem.1 hs j h (by omega) hh h1;rw[<- iO,<- iO] at this;exact jV this hc
 ·exact hc
theorem Wg(hs:SA l)(hc:dR (l.getD h (⟨#[]⟩,0)).1 k=false)(j:Nat)(h1:h<=j)(hj:j<l.length):dR (l.getD j (⟨#[]⟩,0)).1 k=false:=by
 rcases Nat.lt_or_eq_of_le h1 with h2|rfl;·have:=List.pairwise_iff_getElem.1 hs h j (by omega) hj h2;rw[<- iO,<- iO] at this;exact nz hc (wA this)
 ·exact hc
theorem Yr{a:Option Addr}{c:Nat}{w:World}(ha:Cl w a (dF l))(hs:SA l)(hlen:l.length<=1099511627776) :
  Calls prog 216 #[.slice a l.length c,.string k,.func (.func 217) #[] #[]] w λ e w'=>∃i:Nat,e=.returned (.tuple #[.int .i64 (i:Int),.bool (decide (i<l.length/\(l.getD i (⟨#[]⟩,0)).1=k))])/\uG l k i/\St w [] [] w':=by
 refine enter func216 ntmps216 rfl rfl (SF.s1 ha) ?_;simp only[cN];refine Kq ?_;refine J2 ?_;refine cP ?_;refine Kb7 ?_;refine J8 ?_;refine Oy ?_;refine kP [9,10,11,15,16,17,18,19,20,21,22,23,24,25,26,27,28,29,30,31,32,33,34] (λ x:Nat×Nat=>[(9,.int .i64 ((x.1:Nat):Int)),(10,.int .i64 ((x.2:Nat):Int))]) (λ x=>x.1<=x.2/\x.2<=l.length/\(∀j,j<x.1->dR (l.getD j (⟨#[]⟩,0)).1 k=true)/\(∀j,x.2<=j->j<l.length->dR (l.getD j (⟨#[]⟩,0)).1 k=false)) (λ x=>x.2-x.1) ((0,l.length)) (⟨Nat.zero_le _,Nat.le_refl _,λ j hj=>absurd hj (Nat.not_lt_zero j),λ j h1 h2=>by omega⟩) ?_ (λ x f hx=>?_);·repeat (first|exact bX _|refine bL (by exact rfl) ?_)
 refine K0c ?_;refine qJ ?_;refine fX ?_;refine aX (λ c17=>?_) (λ c17=>?_)
 ·refine K1f ?_;intro x30;refine aX (λ c31=>?_) (λ c31=>?_)
  ·refine J70 ?_;refine eN ?_;refine hJ ((by exact aCq (p:=tV _ _<0) c31 ((x.1+x.2)/2+1,x.2))) ?_ ?_ ?_;·(simp only[];omega)
   ·repeat' (first|exact bX _|refine bL ?_ ?_)
    all_goals (exact rfl)
   ·obtain⟨q1,q2,q3,q4⟩:=hx
    first
    | exact⟨by show(x.1+x.2)/2+1<=x.2;omega,q2,Xh hs (by omega) (sR.1 c31),q4⟩
    | exact⟨by show x.1<=(x.1+x.2)/2;omega,by show(x.1+x.2)/2<=l.length;omega,q3,Wg hs (Gb.1 c31)⟩
  ·refine Cg ?_;refine J1 ?_;refine eN ?_;refine hJ ((by exact(x.1,(x.1+x.2)/2))) ?_ ?_ ?_;·omega
   ·repeat' (first|exact bX _|refine bL ?_ ?_)
    all_goals (exact rfl)
   ·obtain⟨q1,q2,q3,q4⟩:=hx
    first
    | exact⟨by show(x.1+x.2)/2+1<=x.2;omega,q2,Xh hs (by omega) (sR.1 c31),q4⟩
    | exact⟨by show x.1<=(x.1+x.2)/2;omega,by show(x.1+x.2)/2<=l.length;omega,q3,Wg hs (Gb.1 c31)⟩
 ·refine K1z ?_;refine lV ?_;refine aB ?_;refine Ph ?_;(refine mN 39 (λ g39=>?_) (λ g39=>?_)<;>refine Ka3 ?_);all_goals (refine Ka3 ?_;refine Ka3 ?_;(first|refine aZ ?_|(refine aF ?_;refine jC ?_));refine um ?_;((first|refine aZ ?_|(refine aF ?_;(refine aH (by(exact cVd (v:=.int .i64 (tV (l.getD x.1 (⟨#[]⟩,0)).1 k)) rf (by(repeat (first|exact cB _|(apply bK;focus ((conv=>{lhs;whnf});try exact rfl))));done) (by kernel_rfl) (λ w1 hw=>O6 _ k w1))) (λ x46=>?_)))));refine Co ?_;refine J8 ?_)
  all_goals
  refine bF results216 (λ w hw=>?_);obtain⟨q1,q2,q3,q4⟩:=hx;refine⟨x.1,?_,⟨by omega,q3,λ j h1 h2=>q4 j (by omega) h2⟩,hw.done⟩
  first
  | (rw[show(tV (l.getD x.1 (⟨#[]⟩,0)).1 k==0)=decide (x.1<l.length/\(l.getD x.1 (⟨#[]⟩,0)).1=k) by rw[Bool.eq_iff_iff];simp only[beq_iff_eq,decide_eq_true_eq,Xr];exact⟨λ h=>⟨by omega,h⟩,λ h=>h.2⟩];rfl)
  | (rw[show decide (x.1<l.length/\(l.getD x.1 (⟨#[]⟩,0)).1=k)=false from decide_eq_false (by omega)];rfl)
end
end Go.Proofs.YtdeecdfockjoiaaGreatDoor
namespace Go.Ct
open Go Go.RowKit
section
section
variable{P:Program}{n:Nat}{S:List (Nat×Value)}
variable{w0 w w':World}{M:List Nat}{H H':List (Nat×Obj)}{A F F':Fr}{O O':List Ow}{G:World->Prop}
variable{d:Nat}{ty:TypeId}{pos:String}{af:Array Edge}{gd:Option (Nat×Bool)}{dst:Option Nat}{x y z:Operand}{t t2 e:TypeId}{p a:Option Addr}{i m k c c2:Nat}
def yi(a:Option Addr)(k c:Nat):Option Addr:=if c=k then a else a.map (·.add (2*k))
theorem Gw(hx:ev S x=.slice a m c)(hy:ev S y=.int .i64 ((k:Nat):Int))(ht:P.underlying t=some (.slice e))(hs:(P.info? e).map (·.size)=some 2)(hk:k<=m)(hmc:m<=c) :
  aN P S G ⟨some d,.slice t x (some y) none none,ty,pos,af,gd⟩ (.slice (yi a k c) (m-k) (c-k)):=⟨λ w _=>by
 have he:P.elem t=e:=by simp[Program.elem,ht]
 have ht':P.underlying t=some (.slice (P.elem t)):=by rw[he];exact ht
 cases hi:P.info? e with
 | none=>simp[hi] at hs
 | some inf=>
  have hs':inf.size=2:=by simpa[hi] using hs
  have hr:=run_slice_l (P:=P) w t a m c ht' .i64 (k:Int) (by omega) (by omega);refine mx (v:=.slice (yi a k c) (m-k) (c-k)) ?_;simp[hx,hy,run_sliceAt_slice w t _ _ _ _ ht',hr,he,sizeOf,typeInfo,hi,hs',sliced,yi,Nat.mul_comm]⟩
theorem SF.y3(h:SF w0 M H A F O w){l:List Pr}(hf:qC A F [] a (dF l))(hc:l.length<=c):SF w0 M H ((yi a k c,dF (l.drop k))::A) F O w:=by
 have e:dF (l.drop k)=(dF l).drop (2*k):=by rw[Gi]
 rw[e];refine h.Ji hf (λ hn=>?_) (λ h=>by rw[h];simp) (λ w hc'=>?_)
 ·unfold yi;split;·rfl
  ·cases a with
   | none=>rfl
   | some a=>obtain⟨b,o,s⟩:=a;simp only[Option.map_some,dJ,Addr.add];split<;>rfl
 ·unfold yi;split;·rename_i heq;have:(dF l).drop (2*k)=[]:=List.drop_eq_nil_of_le (by rw[gE];omega);rw[this];exact Cl.nil _ _
  ·exact hc'.drop _
theorem SF.zf(h:SF w0 M H A F O w){l:List Pr}(hf:qC A F [] a (dF l)):SF w0 M H ((a,dF (l.take k))::A) F O w:=by
 have e:dF (l.take k)=(dF l).take (2*k):=by rw[wF]
 rw[e];exact h.Ji hf (λ _=>rfl) (λ h=>by rw[h];simp) (λ w hc=>hc.take (List.take_prefix _ _))
theorem Qu{b:Nat}(hx:ev S x=.slice (some ⟨b,0,none⟩) m c)(hy:ev S y=.int .i64 ((k:Nat):Int))(ht:P.underlying t=some (.slice e))(hs:(P.info? e).map (·.size)=some 2)(hk:k<=m)(hmc:m<=c) :
  aN P S G ⟨some d,.slice t x (some y) none none,ty,pos,af,gd⟩ (.slice (some ⟨b,2*(if c=k then 0 else k),none⟩) (m-k) (c-k)):=by
 have:=Gw (P:=P) (G:=G) (d:=d) (ty:=ty) (pos:=pos) (af:=af) (gd:=gd) hx hy ht hs hk hmc
 rw[show yi (some ⟨b,0,none⟩) k c=some ⟨b,2*(if c=k then 0 else k),none⟩ by
  unfold yi;split;·rfl
  ·simp[Addr.add_lit]] at this
 exact this
end
end
end Go.Ct
namespace Go.Proofs.YtdeecdfockjoiaaGreatDoor
open Go.Proofs.Tryz
open Go.RowKit Go.Ct
section
section
variable{l:List Pr}{a:Option Addr}{c:Nat}{k:ByteArray}{v:Int}{w:World}
theorem N7(ha:Cl w a (dF l))(hs:SA l)(hlen:l.length<=1099511627775) :
  Calls prog 177 #[.slice a l.length c,.string k] w λ e w'=>∃i:Nat,e=.returned (.tuple #[.int .i64 (i:Int),.bool (decide (i<l.length/\(l.getD i (⟨#[]⟩,0)).1=k))])/\uG l k i/\St w [] [] w':=by refine enter func177 ntmps177 rfl rfl (SF.s1 ha) ?_;simp only[cN];refine Kq ?_;refine lV ?_;refine aI (c0 (V:=λ i:Nat=>.tuple #[.int .i64 (i:Int),.bool (decide (i<l.length/\(l.getD i (⟨#[]⟩,0)).1=k))]) (hc:=λ w1 hw=>Yr (hw.cl fin) hs (by omega))) (λ x8 h8=>?_);refine K1s ?_;refine J8 ?_;refine bF results177 (λ w hw=>?_);exact⟨x8,rfl,h8,hw.done⟩
def cS(l:List Pr)(k:ByteArray):Option Int:=if SA l then qI l k else none
def rF(l:List Pr)(k:ByteArray)(v:Int):List Pr:=if SA l then qK l k v else []
def kQ(l:List Pr)(k:ByteArray):List Pr:=if SA l then yM l k else []
theorem Jl(k:ByteArray)(ha:Cl w a (dF l))(hlen:l.length<=1099511627775) :
  Calls prog 143 #[.slice a l.length c,.string k] w λ e w'=>e=.returned (.tuple #[.int .u64 ((cS l k).getD 0),.bool (cS l k).isSome])/\St w [] [] w':=by
 refine enter func143 ntmps143 rfl rfl (SF.s1 ha) ?_;simp only[cN];refine Kq ?_;refine gQ ?_;refine aI (c0 (V:=.bool) (hc:=λ w1 hw=>rS (hw.cl fin) (by omega))) (λ x9 h9=>?_);refine pU ?_;refine aX (λ c10=>?_) (λ c10=>?_);·refine Kq ?_;refine bF results143 (λ w hw=>?_);rw[show cS l k=none from if_neg λ hs=>by rw[h9.2 (pV.2 hs)] at c10;cases c10];exact⟨rfl,hw.done⟩
 ·have hs:SA l:=pV.1 (h9.1 (by simpa using c10));refine yO ?_;refine aI (c0 (V:=λ i:Nat=>.tuple #[.int .i64 (i:Int),.bool (decide (i<l.length/\(l.getD i (⟨#[]⟩,0)).1=k))]) (hc:=λ w1 hw=>N7 (hw.cl fin) hs hlen)) (λ x14 h14=>?_);refine aB ?_;refine K1s ?_;refine Ke9 ?_;refine aX (λ c18=>?_) (λ c18=>?_)
  ·refine Kq ?_;refine bF results143 (λ w hw=>?_);have hnf:¬(x14<l.length/\(l.getD x14 (⟨#[]⟩,0)).1=k):=by simpa using c18
   rw[show cS l k=none from(if_pos hs).trans (oG (xE hs h14 hnf))];exact⟨rfl,hw.done⟩
  ·have hfd:x14<l.length/\(l.getD x14 (⟨#[]⟩,0)).1=k:=by simpa using c18
   have hx14:=hfd.1;refine yO ?_;refine jC ?_;refine J3 ?_;refine J8 ?_;refine bF results143 (λ w hw=>?_);rw[show cS l k=some (l.getD x14 (⟨#[]⟩,0)).2 from(if_pos hs).trans (Dj h14 hfd.1 hfd.2)];exact⟨rfl,hw.done⟩
def fh(w:World)(m:List Pr)(e:Ending)(w':World):Prop:=∃x:Option Addr×Nat,e=.returned (.slice x.1 m.length x.2)/\m.length<=x.2/\SF w [] [] [] [] [⟨x.1,dF m,x.2,182,2⟩] w'
variable{i n q:Nat}{z p:Pr}
theorem Q1{l:List Pr}(hi:i<=l.length)(hn:i<=n) :
  (List.replicate n z).take 0++(l.take i).take (min i n)++(List.replicate n z).drop (0+min i n)=l.take i++List.replicate (n-i) z:=by rw[show min i n=i by omega,List.take_take,Nat.min_self,Nat.zero_add,List.take_zero,List.nil_append,List.drop_replicate]
theorem u9{l:List Pr}(hi:i<=l.length)(hn:i+1<=n):(l.take i++List.replicate (n-i) z).set i p=l.take i++p::List.replicate (n-1-i) z:=by rw[List.set_append_right _ _ E0p,List.length_take,Nat.min_eq_left hi,Nat.sub_self,show n-i=(n-1-i)+1 by omega,List.replicate_succ,List.set_cons_zero]
theorem Zj{l:List Pr}(hi:i<=l.length)(hq:q=if l.length+1=i+1 then 0 else i+1) :
  (l.take i++p::List.replicate (l.length-i) z).take q++(l.drop i).take (min (l.length-i) (l.length+1-(i+1)))++(l.take i++p::List.replicate (l.length-i) z).drop (q+min (l.length-i) (l.length+1-(i+1)))=l.take i++p::l.drop i:=by
 rw[show min (l.length-i) (l.length+1-(i+1))=l.length-i by omega];by_cases h:l.length=i;·subst h;rw[if_pos rfl] at hq;subst hq;simp
 ·rw[if_neg (by omega)] at hq;subst hq;rw[List.take_append,List.take_of_length_le (l:=l.take i) E0p,List.length_take,Nat.min_eq_left hi,show i+1-i=1 by omega];rw[List.take_of_length_le (l:=l.drop i) E1j];have e:(l.take i++p::List.replicate (l.length-i) z).drop (i+1+(l.length-i))=[]:=List.drop_eq_nil_of_le (by rw[List.length_append,List.length_take,List.length_cons,List.length_replicate];omega);rw[e,List.append_nil,List.take_succ_cons,List.take_zero,List.append_assoc];rfl
theorem tz(k:ByteArray)(v:Int)(ha:Cl w a (dF l))(hc:l.length<=c)(hlen:l.length<=1099511627775) :
  Calls prog 284 #[.slice a l.length c,.string k,.int .u64 v] w (fh w (rF l k v)):=by
 refine enter func284 ntmps284 rfl rfl (SF.s1 ha) ?_;simp only[cN];refine Ka9 ?_;refine aI (c0 (V:=.bool) (hc:=λ w1 hw=>rS (hw.cl fin) (by omega))) (λ x12 h12=>?_);refine pU ?_;refine aX (λ c13=>?_) (λ c13=>?_);·refine eD ?_;refine bJ results284 (λ w hw=>?_);rw[show rF l k v=[] from if_neg λ hs=>by rw[h12.2 (pV.2 hs)] at c13;cases c13];exact⟨(none,0),rfl,Nat.le_refl _,(hw.gN 182 2).fS⟩
 ·have hs:SA l:=pV.1 (h12.1 (by simpa using c13));refine yO ?_;refine aI (c0 (V:=λ i:Nat=>.tuple #[.int .i64 (i:Int),.bool (decide (i<l.length/\(l.getD i (⟨#[]⟩,0)).1=k))]) (hc:=λ w1 hw=>N7 (hw.cl fin) hs hlen)) (λ x17 h17=>?_);refine aB ?_;refine K1s ?_;refine J8 ?_;refine gQ ?_;refine aE ?_;refine aX (λ c20=>?_) (λ c20=>?_)
  ·have hfd:x17<l.length/\(l.getD x17 (⟨#[]⟩,0)).1=k:=by simpa using c20
   have hx17:=hfd.1;refine J2 ?_;refine cP ?_;refine oM (λ x23=>?_);refine Jo ?_;(refine aH (aW.gJ (zU rf rf rP fin (by(simp;done)) (by exact rfl) dP (by exact kY rfl)) E0y) (λ x26=>?_));refine Ke2 ?_;refine aB ?_;refine jC ?_;refine aQ ?_;refine aM (by(exact aW.gJ (Ld rf rf eL rP (by omega)) E0y)) (λ _=>?_);refine Kb5 ?_;refine J1 ?_;refine bJ results284 (λ w hw=>?_);rw[show rF l k v=l.set x17 ((l.getD x17 (⟨#[]⟩,0)).1,v) from(if_pos hs).trans (Lf h17 hfd.1 hfd.2)];exact⟨(some ⟨x23,0,none⟩,l.length),by rw[List.length_set];rfl,by rw[List.length_set];exact Nat.le_refl _,hw.fS⟩
  ·have hnf:¬(x17<l.length/\(l.getD x17 (⟨#[]⟩,0)).1=k):=by simpa using c20
   have hpl:=h17.le;have hq1:(List.take x17 l++List.replicate (l.length+1-x17) ((⟨#[]⟩:ByteArray),(0:Int))).length=l.length+1:=by rw[List.length_append,List.length_take,List.length_replicate];omega
   refine rE (λ w hw=>(hw.zf (k:=x17) fin).y3 (k:=x17) (c:=c) fin hc) ?_;refine Kd9 ?_;refine cP ?_;refine tZ ?_;refine oM (λ x36=>?_);refine Jo ?_;refine aB ?_;refine aA (rV rf rf dP (by exact C3 rfl) (by omega)) rfl ?_;(refine aH (aW.gJ (xC (q:=0) (l2:=l.take x17) rf rf rP fin rfl E0p (by rw[List.length_replicate];omega) dP (by exact kY rfl)) (by intro x;simp only[gU];rw[Q1 hpl (by omega)])) (λ x41=>?_));refine Ke2 ?_;refine Df ?_;refine cI ?_;refine jC ?_;refine aM (by(exact aW.gJ (Im rf rf cY rP E1m) (by intro x;simp only[gU];rw[u9 hpl (by omega),Nat.add_sub_cancel]))) (λ _=>?_);refine pJ ?_;refine fO [0,1,2,3,4,5,6,7] ?_;refine yS ?_;refine Lb ?_;refine cD (i:=3) (hq:=(by exact Qu rf rf dP (by exact kY rfl) (by omega) (by omega))) (h:=?_);refine yS ?_;refine cD (i:=6) (hq:=(by exact Gw rf rf dP (by exact kY rfl) (by omega) (by omega))) (h:=?_);(refine bR (i:=7) (hq:=(aW.gJ (xC (q:=if l.length+1=x17+1 then 0 else x17+1) (l2:=l.drop x17) rf rf rP fin rfl E1j (by rw[List.length_append,List.length_take,List.length_cons,List.length_replicate];split<;>omega) dP (by exact kY rfl)) (by intro x;simp only[gU];rw[Zj hpl rfl]))) (h:=λ x55=>?_));refine dA ?_;refine Kd6 ?_;refine bJ results284 (λ w hw=>?_);rw[show rF l k v=l.take x17++(k,v)::l.drop x17 from(if_pos hs).trans (Xd h17 hnf)];exact⟨(some ⟨x36,0,none⟩,l.length+1),by rw[show(l.take x17++(k,v)::l.drop x17).length=l.length+1 by rw[List.length_append,List.length_take,List.length_cons,List.length_drop];omega];rfl,by rw[List.length_append,List.length_take,List.length_cons,List.length_drop];show _<=l.length+1;omega,hw.fS⟩
theorem Vb{l:List Pr}(hi:i<l.length)(hq:q=if l.length-1=i then 0 else i) :
  (l.take i++List.replicate (l.length-1-i) z).take q++(l.drop (i+1)).take (min (l.length-(i+1)) (l.length-1-i))++(l.take i++List.replicate (l.length-1-i) z).drop (q+min (l.length-(i+1)) (l.length-1-i))=l.take i++l.drop (i+1):=by
 rw[show min (l.length-(i+1)) (l.length-1-i)=l.length-1-i by omega];by_cases h:l.length-1=i
 ·rw[if_pos h] at hq;subst hq;have e:l.length-1-i=0:=by omega
  have e2:l.drop (i+1)=[]:=List.drop_eq_nil_of_le (by omega);rw[e,e2];simp
 ·rw[if_neg h] at hq;subst hq;rw[List.take_append_of_le_length E0p,List.take_of_length_le (l:=l.take q) E0p];rw[List.take_of_length_le (l:=l.drop (q+1)) E1j];have e:(l.take q++List.replicate (l.length-1-q) z).drop (q+(l.length-1-q))=[]:=List.drop_eq_nil_of_le E1m;rw[e,List.append_nil]
theorem fm(k:ByteArray)(ha:Cl w a (dF l))(hc:l.length<=c)(hlen:l.length<=1099511627775) :
  Calls prog 303 #[.slice a l.length c,.string k] w (fh w (kQ l k)):=by
 refine enter func303 ntmps303 rfl rfl (SF.s1 ha) ?_;simp only[cN];refine Ka9 ?_;refine aI (c0 (V:=.bool) (hc:=λ w1 hw=>rS (hw.cl fin) (by omega))) (λ x10 h10=>?_);refine pU ?_;refine aX (λ c11=>?_) (λ c11=>?_);·refine eD ?_;refine bJ results303 (λ w hw=>?_);rw[show kQ l k=[] from if_neg λ hs=>by rw[h10.2 (pV.2 hs)] at c11;cases c11];exact⟨(none,0),rfl,Nat.le_refl _,(hw.gN 182 2).fS⟩
 ·have hs:SA l:=pV.1 (h10.1 (by simpa using c11));refine yO ?_;refine aI (c0 (V:=λ i:Nat=>.tuple #[.int .i64 (i:Int),.bool (decide (i<l.length/\(l.getD i (⟨#[]⟩,0)).1=k))]) (hc:=λ w1 hw=>N7 (hw.cl fin) hs hlen)) (λ x15 h15=>?_);refine aB ?_;refine K1s ?_;refine Ke9 ?_;refine aX (λ c19=>?_) (λ c19=>?_)
  ·have hnf:¬(x15<l.length/\(l.getD x15 (⟨#[]⟩,0)).1=k):=by simpa using c19
   refine J2 ?_;refine cP ?_;refine oM (λ x22=>?_);refine Jo ?_;(refine aH (aW.gJ (zU rf rf rP fin (by(simp;done)) (by exact rfl) dP (by exact kY rfl)) E0y) (λ x25=>?_));refine Kb5 ?_;refine J1 ?_;refine bJ results303 (λ w hw=>?_);rw[show kQ l k=l from(if_pos hs).trans (Z8 (xE hs h15 hnf))];exact⟨(some ⟨x22,0,none⟩,l.length),rfl,Nat.le_refl _,hw.fS⟩
  ·have hfd:x15<l.length/\(l.getD x15 (⟨#[]⟩,0)).1=k:=by simpa using c19
   have hpl:=hfd.1;have hq1:(List.take x15 l++List.replicate (l.length-1-x15) ((⟨#[]⟩:ByteArray),(0:Int))).length=l.length-1:=by rw[List.length_append,List.length_take,List.length_replicate];omega
   refine rE (λ w hw=>(hw.zf (k:=x15) fin).y3 (k:=x15+1) (c:=c) fin hc) ?_;refine Kd9 ?_;refine cP ?_;refine L5 ?_;refine oM (λ x30=>?_);refine Jo ?_;refine aB ?_;refine aA (rV rf rf dP (by exact C3 rfl) (by omega)) rfl ?_;(refine aH (aW.gJ (xC (q:=0) (l2:=l.take x15) rf rf rP fin rfl E0p (by rw[List.length_replicate];omega) dP (by exact kY rfl)) (by intro x;simp only[gU];rw[Q1 (by omega) (by omega)])) (λ x35=>?_));refine pJ ?_;refine fO [0,1,2,3,4,5,6,7] ?_;refine yS ?_;refine cD (i:=2) (hq:=(by exact Qu rf rf dP (by exact kY rfl) (by omega) (by omega))) (h:=?_);refine yS ?_;refine Lb ?_;refine cD (i:=6) (hq:=(by exact Gw (k:=x15+1) rf rf dP (by exact kY rfl) (by omega) (by omega))) (h:=?_);(refine bR (i:=7) (hq:=(aW.gJ (xC (q:=if l.length-1=x15 then 0 else x15) (l2:=l.drop (x15+1)) rf rf rP fin rfl E1j (by rw[List.length_append,List.length_take,List.length_replicate];split<;>omega) dP (by exact kY rfl)) (by intro x;simp only[gU];rw[Vb hpl rfl]))) (h:=λ x43=>?_));refine dA ?_;refine Kd6 ?_;refine bJ results303 (λ w hw=>?_);rw[show kQ l k=l.take x15++l.drop (x15+1) from(if_pos hs).trans (Hk hs h15 hfd.1 hfd.2)];exact⟨(some ⟨x30,0,none⟩,l.length-1),by rw[show(l.take x15++l.drop (x15+1)).length=l.length-1 by rw[List.length_append,List.length_take,List.length_drop];omega];rfl,by rw[List.length_append,List.length_take,List.length_drop];show _<=l.length-1;omega,hw.fS⟩
def zn(w:World)(m:List Pr)(e:Ending)(w':World):Prop:=∃x:Option Addr×Nat,e=.returned (.slice x.1 m.length x.2)/\m.length<=x.2/\SF w [] [] [] [(x.1,dF m)] [] w'
theorem fh.res{w:World}{m:List Pr}{e:Ending}{w':World}(h:fh w m e w'):zn w m e w':=by obtain⟨x,h1,h2,h3⟩:=h;exact⟨x,h1,h2,h3.freeze .head (by simp)⟩
theorem rh(k:ByteArray)(v:Int)(ha:Cl w a (dF l))(hc:l.length<=c)(hlen:l.length<=1099511627775) :
  Calls prog 284 #[.slice a l.length c,.string k,.int .u64 v] w (zn w (rF l k v)):=(tz k v ha hc hlen).mono λ _ _ h=>h.res
theorem fw(k:ByteArray)(ha:Cl w a (dF l))(hc:l.length<=c)(hlen:l.length<=1099511627775) :
  Calls prog 303 #[.slice a l.length c,.string k] w (zn w (kQ l k)):=(fm k ha hc hlen).mono λ _ _ h=>h.res
end
end
section
section
variable{l:List Pr}{a:Option Addr}{c:Nat}{k:ByteArray}{v:Int}{w:World}
theorem ko(l:List Pr)(k:ByteArray):(yM l k).length<=l.length:=List.length_filter_le _ _
end
end
section
section
variable{l X:List Pr}{a:Option Addr}{c M:Nat}{k j:ByteArray}{v z:Int}{w:World}
theorem Fp(h:SA X)(k:ByteArray)(v:Int):rF X k v=qK X k v:=if_pos h
theorem R7(h:SA X)(k:ByteArray):kQ X k=yM X k:=if_pos h
theorem vW(h:SA X)(k:ByteArray):cS X k=qI X k:=if_pos h
theorem Wm(h:SA X)(k:ByteArray)(v:Int):SA (rF X k v):=by rw[Fp h];exact Mn h
theorem Su(h:SA X)(k:ByteArray):SA (kQ X k):=by rw[R7 h];exact gi k h
theorem dq(h:SA X)(k:ByteArray)(v:Int)(j:ByteArray):qI (rF X k v) j=if j=k then some v else qI X j:=by rw[Fp h];exact B5 j h
theorem Zw(h:SA X)(k j:ByteArray):qI (kQ X k) j=if j=k then none else qI X j:=by rw[R7 h];exact Y8 X k j
theorem Mt(X:List Pr)(k:ByteArray)(v:Int):(rF X k v).length<=X.length+1:=by
 unfold rF;split;·next h=>rw[B6 h];split<;>omega
 ·exact Nat.zero_le _
theorem Ik(X:List Pr)(k:ByteArray):(kQ X k).length<=X.length:=by
 unfold kQ;split;·exact ko X k
 ·exact Nat.zero_le _
theorem Yo(h:SA X)(k:ByteArray)(v:Int):cS (rF X k v) k=some v:=by rw[vW (Wm h k v),dq h,if_pos rfl]
theorem Uf(h:SA X)(k:ByteArray):cS (kQ X k) k=none:=by rw[vW (Su h k),Zw h,if_pos rfl]
theorem lu(h:SA X)(k:ByteArray)(v:Int):(rF X k v).length=if(cS X k).isSome=true then X.length else X.length+1:=by rw[Fp h,vW h];exact B6 h
end
end
end Go.Proofs.YtdeecdfockjoiaaGreatDoor
namespace Go.Ct
open Go Go.RowKit
section
variable{n m i:Nat}
theorem lF(h:n<18446744073709551616):IntKind.u64.wrap ((n:Nat):Int)=(n:Int):=by
 have h2:IntKind.u64.wrap (n:Int)=(n:Int)%18446744073709551616:=by simp[IntKind.wrap,IntKind.signed,IntKind.bits]
 omega
theorem vN(n:Nat)(h:n<18446744073709551616):(BitVec.ofInt IntKind.u64.bits (n:Int)).toNat=n:=by show(BitVec.ofInt 64 (n:Int)).toNat=n;rw[BitVec.toNat_ofInt];omega
theorem oD(hn:n<18446744073709551616)(hm:m<18446744073709551616):oN .u64 (n:Int) (m:Int)=((n &&& m:Nat):Int):=by unfold oN;rw[BitVec.toNat_and,vN n hn,vN m hm];exact lF (Nat.lt_of_le_of_lt Nat.and_le_left hn)
theorem vt(hn:n<18446744073709551616)(hm:m<18446744073709551616):rOr .u64 (n:Int) (m:Int)=((n ||| m:Nat):Int):=by unfold rOr;rw[BitVec.toNat_or,vN n hn,vN m hm];exact lF (Nat.or_lt_two_pow (n:=64) hn hm)
theorem n0(hn:n<18446744073709551616)(hm:m<18446744073709551616):ss .u64 (n:Int) (m:Int)=((n ^^^ m:Nat):Int):=by unfold ss;rw[BitVec.toNat_xor,vN n hn,vN m hm];exact lF (Nat.xor_lt_two_pow (n:=64) hn hm)
theorem oE(hi:i<=64):oK .u64 (n:Int) (i:Int)=((n >>> i:Nat):Int):=by
 unfold oK;rw[Int.toNat_natCast,show min i IntKind.u64.bits=i from Nat.min_eq_left hi,Nat.shiftRight_eq_div_pow];have:(2:Int)^i=((2^i:Nat):Int):=by simp
 rw[this,Int.fdiv_eq_ediv_of_nonneg _ (fN _)];rfl
theorem Hf(hi:i<64):M1 .u64 1 (i:Int)=((2^i:Nat):Int):=by
 unfold M1;rw[Int.toNat_natCast,show min i IntKind.u64.bits=i from Nat.min_eq_left (Nat.le_of_lt hi),Int.one_mul];have:(2:Int)^i=((2^i:Nat):Int):=by simp
 rw[this];refine lF ?_;have:=Nat.pow_lt_pow_right (a:=2) (by decide) hi;omega
def jG(n:Nat):Nat->Nat
 | 0=>0
 | k+1=>jG n k+if n.testBit k then 1 else 0
theorem Oa(n:Nat):∀k,jG n k<=k
 | 0=>Nat.le_refl _
 | k+1=>by have:=Oa n k;simp only[jG];split<;>omega
theorem Eb{n m:Nat}:∀{k:Nat},(∀i,i<k->n.testBit i=m.testBit i)->jG n k=jG m k
 | 0,_=>rfl
 | k+1,h=>by simp only[jG];rw[Eb λ i hi=>h i (Nat.lt_succ_of_lt hi),h k (Nat.lt_succ_self k)]
theorem Xu(n:Nat)(a:Nat):∀k,jG n (a+k)=jG n a+jG (n >>> a) k
 | 0=>rfl
 | k+1=>by rw[<- Nat.add_assoc];simp only[jG,Xu n a k,Nat.testBit_shiftRight];omega
theorem mJ{h l i:Nat}(hl:l<256):(256*h+l).testBit i=if i<8 then l.testBit i else h.testBit (i-8):=Nat.testBit_two_pow_mul_add h (i:=8) hl i
theorem lg{h l:Nat}(hl:l<256)(k:Nat):jG (256*h+l) (8+k)=jG l 8+jG h k:=by
 rw[Xu];congr 1;·exact Eb λ i hi=>by rw[mJ hl,if_pos hi]
 ·rw[Nat.shiftRight_eq_div_pow,show 2^8=256 from rfl];congr 1;omega
theorem Du{a b c d:Nat}(hb:b<256)(hd:d<256):(256*a+b) &&& (256*c+d)=256*(a &&& c)+(b &&& d):=by
 have hbd:b &&& d<256:=Nat.lt_of_le_of_lt Nat.and_le_left hb;refine Nat.eq_of_testBit_eq λ i=>?_;rw[Nat.testBit_and,mJ hb,mJ hd,mJ hbd];split;·rw[Nat.testBit_and]
 ·rw[Nat.testBit_and]
theorem K2{a b s:Nat}(hb:b<256)(hs:s<=8):(256*a+b) >>> s=256*(a >>> s)+((a%2^s)*2^(8-s)+b >>> s):=by
 simp only[Nat.shiftRight_eq_div_pow];have h1:256=2^s*2^(8-s):=by rw[<- Nat.pow_add];rw[show s+(8-s)=8 by omega]
 have h2:=Nat.div_add_mod a (2^s);have hp:0<2^s:=Nat.two_pow_pos s;have h3:256*a+b=2^s*(2^(8-s)*a)+b:=by rw[h1,Nat.mul_assoc]
 rw[h3,Nat.mul_add_div hp];have h4:2^(8-s)*a=256*(a/2^s)+a%2^s*2^(8-s):=by
  conv=>lhs;rw[<- h2]
  rw[h1,Nat.mul_add,Nat.mul_comm (a%2^s),<- Nat.mul_assoc,Nat.mul_comm (2^(8-s)) (2^s)]
 omega
def lR(s:Nat)(m:Nat)(n:Nat):Nat:=((n >>> s) &&& m)+(n &&& m)
theorem u6{a b s d:Nat}(hb:b<256)(hs:s<=8)(hd:d<2^(8-s)):((a%2^s)*2^(8-s)+b >>> s) &&& d=(b >>> s) &&& d:=by
 have hbs:b >>> s<2^(8-s):=by rw[Nat.shiftRight_eq_div_pow];refine Nat.div_lt_of_lt_mul ?_;rw[<- Nat.pow_add,show s+(8-s)=8 by omega];exact hb
 refine Nat.eq_of_testBit_eq λ i=>?_;rw[Nat.testBit_and,Nat.testBit_and,Nat.mul_comm,Nat.testBit_two_pow_mul_add _ hbs];split;·rfl
 ·rename_i h;have:d.testBit i=false:=Nat.testBit_lt_two_pow (Nat.lt_of_lt_of_le hd (Nat.pow_le_pow_right (by decide) (by omega)));rw[this];simp
theorem Ii{s m a b d:Nat}(hb:b<256)(hs:s<=8)(hs0:0<s)(hd:d<2^(8-s)):lR s (256*m+d) (256*a+b)=256*lR s m a+lR s d b:=by
 have hd':d<256:=Nat.lt_of_lt_of_le hd (Nat.pow_le_pow_right (n:=2) (by decide) (show 8-s<=8 by omega));have hL:(a%2^s)*2^(8-s)+b >>> s<256:=by
  have h1:256=2^s*2^(8-s):=by rw[<- Nat.pow_add];rw[show s+(8-s)=8 by omega]
  have h2:a%2^s<2^s:=Nat.mod_lt _ (Nat.two_pow_pos s);have h3:b >>> s<2^(8-s):=by rw[Nat.shiftRight_eq_div_pow];refine Nat.div_lt_of_lt_mul ?_;rw[<- Nat.pow_add,show s+(8-s)=8 by omega];exact hb
  have h4:(a%2^s+1)*2^(8-s)<=2^s*2^(8-s):=Nat.mul_le_mul_right _ h2;rw[Nat.add_mul,Nat.one_mul] at h4;omega
 unfold lR;rw[K2 hb hs,Du hL hd',Du hb hd',u6 hb hs hd];omega
def xn(l:Nat):Nat:=(((lR 2 51 (lR 1 85 l)) >>> 4)+lR 2 51 (lR 1 85 l)) &&& 15
theorem ua:∀l,l<256->lR 1 85 l<256/\lR 2 51 (lR 1 85 l)<256/\lR 2 51 (lR 1 85 l)%16<=4/\lR 2 51 (lR 1 85 l)/16<=4/\xn l=jG l 8:=by decide +kernel
def xZ(d:Nat):Nat->Nat
 | 0=>0
 | k+1=>256*xZ d k+d
theorem Iw:∀(k n:Nat),n<256^k ->
  ∃r,(∀q,q=(lR 2 (xZ 51 k) (lR 1 (xZ 85 k) n))->(((q >>> 4)+q) &&& xZ 15 k)=r/\q<256^k/\q%16<=4)/\(∃ps:List Nat,ps.length=k/\(∀p∈ps,p<=8)/\r=ps.foldr (λ p acc=>p+256*acc) 0/\ps.sum=jG n (8*k))
 | 0,n,h=>⟨0,λ q hq=>by
   have h0:n=0:=by simpa using h
   subst h0
   subst hq
   simp[lR,xZ],[],rfl,by simp,rfl,by simp[jG]⟩
 | k+1,n,h=>by
  have hl:n%256<256:=Nat.mod_lt _ (by decide)
  have hn:n=256*(n/256)+n%256:=(Nat.div_add_mod n 256).symm
  have hk:n/256<256^k:=by
   refine Nat.div_lt_of_lt_mul ?_
   rw[Nat.mul_comm,<- Nat.pow_succ];exact h
  obtain⟨r,h1,ps,h2,h3,h4,h5⟩:=Iw k (n/256) hk
  obtain⟨b1,b2,b3,b4,b5⟩:=ua (n%256) hl
  obtain⟨q1,q2,q3⟩:=h1 _ rfl
  generalize hQ:lR 2 (xZ 51 k) (lR 1 (xZ 85 k) (n/256))=Q at *
  refine⟨256*r+jG (n%256) 8,λ q hq=>?_,jG (n%256) 8::ps,by simp[h2],?_,?_,?_⟩
  ·have e:q=256*Q+lR 2 51 (lR 1 85 (n%256)):=by
    rw[hq]
    have e0:lR 1 (xZ 85 (k+1)) n=256*lR 1 (xZ 85 k) (n/256)+lR 1 85 (n%256):=by
     have:=Ii (s:=1) (m:=xZ 85 k) (a:=n/256) hl (by decide) (by decide) (show 85<2^(8-1) by decide)
     rw[<- hn] at this
     exact this
    rw[e0,<- hQ]
    exact Ii (s:=2) (m:=xZ 51 k) b1 (by decide) (by decide) (show 51<2^(8-2) by decide)
   generalize hB:lR 2 51 (lR 1 85 (n%256))=B at *
   have hones:((B >>> 4)+B) &&& 15=jG (n%256) 8:=by rw[<- b5,xn,hB]
   have e4:q >>> 4=256*(Q >>> 4)+((Q%16)*16+B >>> 4):=by rw[e];exact K2 (s:=4) b2 (by decide)
   have eB:B >>> 4=B/16:=by rw[Nat.shiftRight_eq_div_pow]
   have hlow:(Q%16)*16+B >>> 4+B<256:=by rw[eB];omega
   have hsum:q >>> 4+q=256*(Q >>> 4+Q)+((Q%16)*16+B >>> 4+B):=by rw[e4,e];omega
   refine⟨?_,?_,?_⟩
   ·rw[hsum]
    show(256*(Q >>> 4+Q)+_) &&& (256*xZ 15 k+15)=_
    rw[Du hlow (by decide),q1,<- hones]
    congr 1
    rw[Nat.and_two_pow_sub_one_eq_mod _ 4,Nat.and_two_pow_sub_one_eq_mod _ 4]
    omega
   ·rw[e,Nat.pow_succ];omega
   ·rw[e];omega
  ·intro p hp
   rcases List.mem_cons.1 hp with rfl|hp
   ·exact Oa _ 8
   ·exact h3 p hp
  ·simp only[List.foldr_cons,<- h4];omega
  ·rw[List.sum_cons,h5]
   conv=>rhs;rw[hn]
   rw[show 8*(k+1)=8+8*k by omega,lg hl]
end
section
variable{x a b r t1 t2 t3 p0 p1 p2 t4 t5 t6 t7 p3 p4 p5 p6 p7:Nat}
theorem aDL(ha:a<256)(h:x=a+256*b):x/256=b:=by omega
theorem aDH(ha:a<65536)(h:x=a+65536*b):x/65536=b:=by omega
theorem aDV(ha:a<4294967296)(h:x=a+4294967296*b):x/4294967296=b:=by omega
theorem bnd{t p s B:Nat}(e:t=p+256*s)(hp:p<=8)(hs:s<=B):t<=8+256*B:=by omega
theorem fa(e0:r=p0+256*t1)(e1:t1=p1+256*t2)(e2:t2=p2+256*t3):r+t1=((p0+p1)+256*(p1+p2))+65536*(t2+t3):=by omega
theorem ca(g0:p0<=8)(g1:p1<=8)(g2:p2<=8):(p0+p1)+256*(p1+p2)<65536:=by omega
theorem fb0(e2:t2=p2+256*t3)(e3:t3=p3+256*t4)(e4:t4=p4+256*t5)(e5:t5=p5+256*t6)(e6:t6=p6+256*t7):t2+t3+t4+t5=(p2+p3+p4+p5)+256*(p3+p4+p5+p6)+65536*(t4+t5+t6+t7):=by subst e6;omega
theorem fb(f4:r+t1=((p0+p1)+256*(p1+p2))+65536*(t2+t3))(e2:t2=p2+256*t3)(e3:t3=p3+256*t4)(e4:t4=p4+256*t5)(e5:t5=p5+256*t6)(e6:t6=p6+256*t7) :
  r+t1+(t2+t3)=((p0+p1+p2+p3)+256*(p1+p2+p3+p4)+65536*(p2+p3+p4+p5)+16777216*(p3+p4+p5+p6))+4294967296*(t4+t5+t6+t7):=by
 have h1:=fb0 e2 e3 e4 e5 e6;have h2:t2+t3=(p2+p3)+256*(t3+t4):=by clear h1 f4 e4 e5 e6;omega
 have h3:t3+t4=(p3+p4)+256*(t4+t5):=by clear h1 h2 f4 e2 e5 e6;omega
 clear e2 e3 e4 e5 e6;omega
theorem cb(g0:p0<=8)(g1:p1<=8)(g2:p2<=8)(g3:p3<=8)(g4:p4<=8)(g5:p5<=8)(g6:p6<=8):(p0+p1+p2+p3)+256*(p1+p2+p3+p4)+65536*(p2+p3+p4+p5)+16777216*(p3+p4+p5+p6)<4294967296:=by omega
theorem fc(b0:r<=8+256*(8+256*(8+256*(8+256*(8+256*(8+256*(8+256*8)))))))(b1:t1<=8+256*(8+256*(8+256*(8+256*(8+256*(8+256*8)))))):r+t1<9223372036854775808:=by omega
theorem fd(b0:r<=8+256*(8+256*(8+256*(8+256*(8+256*(8+256*(8+256*8)))))))(b1:t1<=8+256*(8+256*(8+256*(8+256*(8+256*(8+256*8))))))(b2:t2<=8+256*(8+256*(8+256*(8+256*(8+256*8)))))(b3:t3<=8+256*(8+256*(8+256*(8+256*8)))):r+t1+(t2+t3)<9223372036854775808:=by omega
theorem fe(g1:p1<=8)(g2:p2<=8)(g3:p3<=8)(g4:p4<=8)(g5:p5<=8)(g6:p6<=8)(b4:t4<=8+256*(8+256*(8+256*8)))(b5:t5<=8+256*(8+256*8))(b6:t6<=8+256*8)(b7:t7<=8) :
  (p1+p2+p3+p4)+256*(p2+p3+p4+p5)+65536*(p3+p4+p5+p6)+16777216*(t4+t5+t6+t7)+(t5+t6+t7)<36028797018963968:=by omega
theorem ff(e4:t4=p4+256*t5)(e5:t5=p5+256*t6)(e6:t6=p6+256*t7)(e7:t7=p7) :
  ((p0+p1+p2+p3)+256*(p1+p2+p3+p4)+65536*(p2+p3+p4+p5)+16777216*(p3+p4+p5+p6))+4294967296*(t4+t5+t6+t7)+(t4+t5+t6+t7) =
   (p0+p1+p2+p3+p4+p5+p6+p7)+256*((p1+p2+p3+p4)+256*(p2+p3+p4+p5)+65536*(p3+p4+p5+p6)+16777216*(t4+t5+t6+t7)+(t5+t6+t7)):=by
 have h:t4+t5+t6+t7=(p4+p5+p6+p7)+256*(t5+t6+t7):=by omega
 generalize t4+t5+t6+t7=s at *;clear e4 e5 e6 e7;omega
theorem j6(g0:p0<=8)(g1:p1<=8)(g2:p2<=8)(g3:p3<=8)(g4:p4<=8)(g5:p5<=8)(g6:p6<=8)(g7:p7<=8)(e0:r=p0+256*t1)(e1:t1=p1+256*t2)(e2:t2=p2+256*t3)(e3:t3=p3+256*t4)(e4:t4=p4+256*t5)(e5:t5=p5+256*t6)(e6:t6=p6+256*t7)(e7:t7=p7) :
  r+r/256<9223372036854775808/\(r+r/256)+(r+r/256)/65536<9223372036854775808/\∃K,K<36028797018963968/\((r+r/256)+(r+r/256)/65536)+((r+r/256)+(r+r/256)/65536)/4294967296=(p0+p1+p2+p3+p4+p5+p6+p7)+256*K:=by
 have b7:t7<=8:=by rw[e7];exact g7
 have b6:=bnd e6 g6 b7;have b5:=bnd e5 g5 b6;have b4:=bnd e4 g4 b5;have b3:=bnd e3 g3 b4;have b2:=bnd e2 g2 b3;have b1:=bnd e1 g1 b2;have b0:=bnd e0 g0 b1;have f4:r+t1=((p0+p1)+256*(p1+p2))+65536*(t2+t3):=fa e0 e1 e2;have c4:(p0+p1)+256*(p1+p2)<65536:=ca g0 g1 g2;have f5:r+t1+(t2+t3)=((p0+p1+p2+p3)+256*(p1+p2+p3+p4)+65536*(p2+p3+p4+p5)+16777216*(p3+p4+p5+p6))+4294967296*(t4+t5+t6+t7):=fb f4 e2 e3 e4 e5 e6;have c5:=cb g0 g1 g2 g3 g4 g5 g6;rw[aDL (Nat.lt_of_le_of_lt g0 (by decide)) e0,aDH c4 f4,aDV c5 f5];refine⟨fc b0 b1,fd b0 b1 b2 b3,(p1+p2+p3+p4)+256*(p2+p3+p4+p5)+65536*(p3+p4+p5+p6)+16777216*(t4+t5+t6+t7)+(t5+t6+t7),?_,?_⟩;·exact fe g1 g2 g3 g4 g5 g6 b4 b5 b6 b7
 ·rw[f5];exact ff e4 e5 e6 e7
end
section
theorem aAA{c K:Nat}(hc:c<=64)(hK:K<36028797018963968):oN .i64 (IntKind.i64.wrap ((c+256*K:Nat):Int)) 127=(c:Int):=by
 rw[wrap_i64 (by omega) (by omega)];unfold oN;have h1:(BitVec.ofInt IntKind.i64.bits ((c+256*K:Nat):Int)).toNat=c+256*K:=by show(BitVec.ofInt 64 ((c+256*K:Nat):Int)).toNat=_;rw[BitVec.toNat_ofInt];omega
 have h2:(BitVec.ofInt IntKind.i64.bits 127).toNat=127:=by decide
 rw[BitVec.toNat_and,h1,h2,show(127:Nat)=2^7-1 from rfl,Nat.and_two_pow_sub_one_eq_mod];have h3:(c+256*K)%2^7=c:=by omega
 rw[h3];exact wrap_i64 (by omega) (by omega)
theorem xD{n:Nat}(hn:n<18446744073709551616):Ep (n:Int)=((jG n 64:Nat):Int):=by
 obtain⟨r,h1,ps,h2,h3,h4,h5⟩:=Iw 8 n hn;obtain⟨q1,q2,_⟩:=h1 _ rfl;match ps,h2 with
 | [p0,p1,p2,p3,p4,p5,p6,p7],_=>
  simp only[List.mem_cons,List.not_mem_nil,or_false,forall_eq_or_imp,forall_eq] at h3;simp only[List.foldr_cons,List.foldr_nil] at h4;simp only[List.sum_cons,List.sum_nil] at h5;obtain⟨g0,g1,g2,g3,g4,g5,g6,g7⟩:=h3;have b5:lR 1 6148914691236517205 n<18446744073709551616:=by unfold lR;have h1:(n >>> 1) &&& 6148914691236517205<=6148914691236517205:=Nat.and_le_right;have h2:n &&& 6148914691236517205<=6148914691236517205:=Nat.and_le_right;omega
  have e1:∀m:Nat,m<18446744073709551616->IntKind.u64.wrap (oN .u64 (oK .u64 (m:Int) 1) 6148914691236517205+oN .u64 (m:Int) 6148914691236517205)=((lR 1 6148914691236517205 m:Nat):Int):=λ m hm=>by have hs:m >>> 1<18446744073709551616:=Nat.lt_of_le_of_lt (Nat.shiftRight_le _ _) hm;have r1:oK .u64 (m:Int) 1=((m >>> 1:Nat):Int):=oE (i:=1) (by decide);have a1:oN .u64 ((m >>> 1:Nat):Int) 6148914691236517205=(((m >>> 1) &&& 6148914691236517205:Nat):Int):=oD hs (m:=6148914691236517205) (by decide);have a2:oN .u64 (m:Int) 6148914691236517205=((m &&& 6148914691236517205:Nat):Int):=oD hm (m:=6148914691236517205) (by decide);rw[r1,a1,a2,<- Int.natCast_add];refine lF ?_;have h1:(m >>> 1) &&& 6148914691236517205<=6148914691236517205:=Nat.and_le_right;have h2:m &&& 6148914691236517205<=6148914691236517205:=Nat.and_le_right;omega
  have e2:∀m:Nat,m<18446744073709551616->IntKind.u64.wrap (oN .u64 (oK .u64 (m:Int) 2) 3689348814741910323+oN .u64 (m:Int) 3689348814741910323)=((lR 2 3689348814741910323 m:Nat):Int):=λ m hm=>by have hs:m >>> 2<18446744073709551616:=Nat.lt_of_le_of_lt (Nat.shiftRight_le _ _) hm;have r1:oK .u64 (m:Int) 2=((m >>> 2:Nat):Int):=oE (i:=2) (by decide);have a1:oN .u64 ((m >>> 2:Nat):Int) 3689348814741910323=(((m >>> 2) &&& 3689348814741910323:Nat):Int):=oD hs (m:=3689348814741910323) (by decide);have a2:oN .u64 (m:Int) 3689348814741910323=((m &&& 3689348814741910323:Nat):Int):=oD hm (m:=3689348814741910323) (by decide);rw[r1,a1,a2,<- Int.natCast_add];refine lF ?_;have h1:(m >>> 2) &&& 3689348814741910323<=3689348814741910323:=Nat.and_le_right;have h2:m &&& 3689348814741910323<=3689348814741910323:=Nat.and_le_right;omega
  have m5:xZ 85 8=6148914691236517205:=by decide
  have m3:xZ 51 8=3689348814741910323:=by decide
  have mf:xZ 15 8=1085102592571150095:=by decide
  rw[m5,m3] at q1 q2;rw[mf] at q1;unfold Ep;simp only[];rw[e1 n hn,e2 _ b5];generalize lR 2 3689348814741910323 (lR 1 6148914691236517205 n)=Q at *;have hQ:Q<18446744073709551616:=q2;have hr:r<18446744073709551616:=by rw[<- q1];exact Nat.lt_of_le_of_lt Nat.and_le_right (by decide)
  have e3:oN .u64 (IntKind.u64.wrap (oK .u64 (Q:Int) 4+(Q:Int))) 1085102592571150095=(r:Int):=by
   have r1:oK .u64 (Q:Int) 4=((Q >>> 4:Nat):Int):=oE (i:=4) (by decide);rw[r1,<- Int.natCast_add];have h2:IntKind.u64.wrap ((Q >>> 4+Q:Nat):Int)=(((Q >>> 4+Q)%18446744073709551616:Nat):Int):=by
    have:IntKind.u64.wrap ((Q >>> 4+Q:Nat):Int)=((Q >>> 4+Q:Nat):Int)%18446744073709551616:=by simp[IntKind.wrap,IntKind.signed,IntKind.bits]
    rw[this];omega
   rw[h2];have a1:=oD (n:=(Q >>> 4+Q)%18446744073709551616) (m:=1085102592571150095) (Nat.mod_lt _ (by decide)) (by decide);refine a1.trans ?_;rw[<- q1];congr 1;refine Nat.eq_of_testBit_eq λ i=>?_;rw[Nat.testBit_and,Nat.testBit_and,show(18446744073709551616:Nat)=2^64 from rfl,Nat.testBit_mod_two_pow];by_cases hi:i<64;·simp[hi]
   ·have:(1085102592571150095:Nat).testBit i=false:=Nat.testBit_lt_two_pow (Nat.lt_of_lt_of_le (by decide:(1085102592571150095:Nat)<2^64) (Nat.pow_le_pow_right (by decide) (by omega)));rw[this];simp
  rw[e3];have s1:∀m:Nat,oK .u64 (m:Int) 8=((m/256:Nat):Int):=λ m=>by have:oK .u64 (m:Int) 8=((m >>> 8:Nat):Int):=oE (i:=8) (by decide);rw[this,Nat.shiftRight_eq_div_pow]
  have s2:∀m:Nat,oK .u64 (m:Int) 16=((m/65536:Nat):Int):=λ m=>by have:oK .u64 (m:Int) 16=((m >>> 16:Nat):Int):=oE (i:=16) (by decide);rw[this,Nat.shiftRight_eq_div_pow]
  have s3:∀m:Nat,oK .u64 (m:Int) 32=((m/4294967296:Nat):Int):=λ m=>by have:oK .u64 (m:Int) 32=((m >>> 32:Nat):Int):=oE (i:=32) (by decide);rw[this,Nat.shiftRight_eq_div_pow]
  have w64:∀m:Nat,m<9223372036854775808->IntKind.u64.wrap ((m:Nat):Int)=(m:Int):=λ m hm=>lF (by omega)
  have hs:jG n 64=p0+p1+p2+p3+p4+p5+p6+p7:=by rw[show(64:Nat)=8*8 from rfl,<- h5];omega
  have hc:=Oa n 64;have hx:=j6 (t7:=p7) (t6:=p6+256*p7) (t5:=p5+256*(p6+256*p7)) (t4:=p4+256*(p5+256*(p6+256*p7))) (t3:=p3+256*(p4+256*(p5+256*(p6+256*p7)))) (t2:=p2+256*(p3+256*(p4+256*(p5+256*(p6+256*p7))))) (t1:=p1+256*(p2+256*(p3+256*(p4+256*(p5+256*(p6+256*p7)))))) (r:=r) g0 g1 g2 g3 g4 g5 g6 g7 (by rw[h4];rfl) rfl rfl rfl rfl rfl rfl rfl;clear h4 q1 q2 e3 e1 e2 b5 h1 hr hQ hn m5 m3 mf h5;obtain⟨x4,x5,K,hK,x6⟩:=hx;rw[s1,<- Int.natCast_add,w64 _ x4,s2,<- Int.natCast_add,w64 _ x5,s3,<- Int.natCast_add,x6,<- hs,w64 _ (by omega)];exact aAA hc hK
end
end Go.Ct
