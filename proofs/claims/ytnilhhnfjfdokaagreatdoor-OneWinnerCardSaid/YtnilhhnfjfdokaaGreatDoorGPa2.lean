/- Pairs: comparing, searching; Find, Put, Drop. -/
import Derived.Test.YtnilhhnfjfdokaaGreatDoorGDfr
import Derived.Lib.Bytealg
import Derived.Laws.Externs
import Derived.Test.YtnilhhnfjfdokaaGreatDoorGMem

set_option linter.unusedSimpArgs false
set_option linter.unusedVariables false
namespace Go.Ct
section
open Go Go.RowKit
variable{P:Program}{S:List (Nat×Value)}{w0 w:World}{M:List Nat}{H:List (Nat×Obj)}{A F:Fr}{O:List Ow}
def vM(a b:ByteArray):Int:=Lib.compareBytes a.data.toList b.data.toList
theorem bj:∀a b:List UInt8,Lib.compareBytes a b<0↔Op.bytesLess a b=true
 | [],[]=>by simp[Lib.compareBytes,Op.bytesLess]
 | [],_::_=>by simp[Lib.compareBytes,Op.bytesLess]
 | _::_,[]=>by simp[Lib.compareBytes,Op.bytesLess]
 | x::a,y::b=>by
  have ih:=bj a b
  simp only[Lib.compareBytes,Op.bytesLess]
  by_cases h:x<y
  ·simp[h]
  ·by_cases h2:y<x
   ·have:x≠y:=λ e=>by subst e;exact h h2
    simp[h,h2,this]
   ·have:x=y:=UInt8.le_antisymm (UInt8.not_lt.1 h2) (UInt8.not_lt.1 h)
    subst this
    simpa[h] using ih
theorem ak:∀a b:List UInt8,Lib.compareBytes a b=0↔a=b
 | [],[]=>by simp[Lib.compareBytes]
 | [],_::_=>by simp[Lib.compareBytes]
 | _::_,[]=>by simp[Lib.compareBytes]
 | x::a,y::b=>by
  have ih:=ak a b
  simp only[Lib.compareBytes]
  by_cases h:x<y
  ·have:x≠y:=λ e=>by subst e;exact absurd h (UInt8.lt_irrefl _)
   simp[h,this]
  ·by_cases h2:y<x
   ·have:x≠y:=λ e=>by subst e;exact h h2
    simp[h,h2,this]
   ·have:x=y:=UInt8.le_antisymm (UInt8.not_lt.1 h2) (UInt8.not_lt.1 h)
    subst this
    simpa[h] using ih
theorem Gc{a b:ByteArray}:vM a b<0↔eK a b=true:=by
 unfold vM eK
 rw[ByteArray.toList_eq,ByteArray.toList_eq]
 exact bj _ _
theorem Ml{a b:ByteArray}:¬vM a b<0↔eK a b=false:=by
 rw[Gc];simp
theorem Zp{a b:ByteArray}:vM a b=0↔a=b:=by
 unfold vM
 rw[ak]
 exact⟨λ h=>toList_inj (by rw[ByteArray.toList_eq,ByteArray.toList_eq];exact h),λ h=>by rw[h]⟩
theorem P2{x:Operand}{f:FuncId}{os:List Operand}{at_:Array TypeId}{vs:List Value}{d:Option Nat}{ty:TypeId}{pos:String}{af:Array Edge}{gd:Option (Nat×Bool)}(hx:ev S x=.func (.func f) #[] #[])(hp:plain P f=true)(ha:lD S os=vs)(w:World) :
  (execOp (ev S) ⟨d,.call {callee:=.value x,args:=⟨os⟩,argTypes:=at_},ty,pos,af,gd⟩).run P w=.ok (.enter f ⟨vs⟩) w:=by
 subst ha
 have hm:(os.map (ev S)).toArray=⟨lD S os⟩:=by rw[oR]
 simp[execOp,resolve,hx,Deferred.ofValue,invoke,lY hp,hm]
theorem qz{v:Value}{x:Operand}{f:FuncId}{xs:List Operand}{at_:Array TypeId}{vs:List Value}{dst:Option Nat}{ty:TypeId}{pos:String}{af:Array Edge}{gd:Option (Nat×Bool)}(hx:ev S x=.func (.func f) #[] #[])(hp:plain P f=true)(ha:lD S xs=vs)
  (hc:∀w,SF w0 M H A F O w->Calls P f ⟨vs⟩ w λ e w'=>e=.returned v/\St w [] [] w') :
  aQ P S (SF w0 M H A F O) ⟨dst,.call {callee:=.value x,args:=⟨xs⟩,argTypes:=at_},ty,pos,af,gd⟩ Unit (λ _=>v) (λ _=>SF w0 M H A F O) :=
 gH (P2 hx hp ha) λ w hw=>(hc w hw).mono λ _ _ ⟨he,hs⟩=>⟨(),he,by simpa using hw.call (SF.gh hs)⟩
theorem fk{G:World->Prop}{d:Nat}{ty t t':TypeId}{pos:String}{af:Array Edge}{gd:Option (Nat×Bool)}{x y:Operand}{a:Int}{n:Nat}(hx:ev S x=.int .u64 a)(hy:ev S y=.int .u64 1)(h:a=(n:Int)) :
  aG P S G ⟨some d,.binOp .shr t x y t',ty,pos,af,gd⟩ (.int .u64 ((n/2:Nat):Int)):=by
 have:=Nk (P:=P) (G:=G) (d:=d) (ty:=ty) (pos:=pos) (af:=af) (gd:=gd) (t:=t) (t':=t') hx hy (by decide)
 rw[show lG .u64 a 1=((n/2:Nat):Int) by
  rw[h];unfold lG
  show(n:Int).fdiv 2=_
  rw[Int.fdiv_eq_ediv_of_nonneg _ (by decide)];rfl] at this
 exact this
theorem Gx{G:World->Prop}{d:Nat}{ty:TypeId}{pos:String}{af:Array Edge}{gd:Option (Nat×Bool)}{x:Operand}{vs:List Value}{k:Nat}{v:Value}(hx:ev S x=.tuple ⟨vs⟩)(hk:vs[k]?=some v):aG P S G ⟨some d,.extract x k,ty,pos,af,gd⟩ v:=⟨λ w _=>by
 simp[execOp,hx,Instr.extract,hk]⟩
@[reducible] def qu {p:Prop} {α:Type} (_:p) (a:α):α:=a
end
end Go.Ct
namespace Go.Proofs.YtnilhhnfjfdokaaGreatDoor
section
open Go.RowKit Go.Ct
theorem Tp{S:List (Nat×Value)}{G:World->Prop}{d:Nat}{ty:TypeId}{pos:String}{af:Array Edge}{gd:Option (Nat×Bool)}{x y:Operand}{t t':TypeId}{a b:ByteArray}(hx:ev S x=.string a)(hy:ev S y=.string b) :
  aG Tryz.prog S G ⟨some d,.call {callee:=.value (.func 297),args := #[x,y],argTypes := #[t,t']},ty,pos,af,gd⟩ (.int .i64 (vM a b)):=⟨λ w _=>by
 have:=run_callFunc_extern (P:=Tryz.prog) (f:=297) Tryz.func297 (by kernel_rfl) (by kernel_rfl) (by kernel_rfl) (e:=Extern.BytealgCompare.compare) (by kernel_rfl) #[.string a,.string b] w
 rw[Lib.run_compareString] at this
 simp only[execOp,resolve,ev,Deferred.ofValue,invoke]
 simp[hx,hy,this,Result.andThen,vM]⟩
theorem Rv(a b:ByteArray)(w:World):Calls Tryz.prog 271 #[.string a,.string b] w λ e w'=>e=.returned (.int .i64 (vM a b))/\St w [] [] w':=by
 refine enter Tryz.func271 Tryz.ntmps271 rfl rfl (SF.s0 w) ?_
 simp only[cP]
 refine dW ?_;refine mL ?_;(refine aF (iJ (Tp rf rf)) (λ x7=>?_));refine J1 ?_
 refine bE Tryz.results271 (λ w hw=>?_)
 exact⟨rfl,hw.done⟩
theorem We(a b:ByteArray)(w:World):Calls Tryz.prog 228 #[.string a,.string b] w λ e w'=>e=.returned (.int .i64 (vM a b))/\St w [] [] w':=by
 refine enter Tryz.func228 Tryz.ntmps228 rfl rfl (SF.s0 w) ?_
 simp only[cP]
 refine dW ?_;refine mL ?_;refine aF (cV (hc:=λ w1 hw=>Rv a b w1)) (λ x7=>?_);refine J1 ?_
 refine bE Tryz.results228 (λ w hw=>?_)
 exact⟨rfl,hw.done⟩
theorem Si(p:Pr)(k:ByteArray)(w:World):Calls Tryz.prog 227 #[.agg ⟨[.string p.1,.int .u64 p.2]⟩,.string k] w λ e w'=>e=.returned (.int .i64 (vM p.1 k))/\St w [] [] w':=by
 refine enter Tryz.func227 Tryz.ntmps227 rfl rfl (SF.s0 w) ?_
 simp only[cP]
 refine J0 ?_;refine bF (λ x2=>?_);refine J1 ?_;refine jA ?_;refine aB ?_;refine aF (cV (hc:=λ w1 hw=>We p.1 k w1)) (λ x8=>?_);refine J1 ?_
 refine bE Tryz.results227 (λ w hw=>?_)
 exact⟨rfl,hw.done⟩
theorem ra{S:List (Nat×Value)}{w0:World}{M:List Nat}{H:List (Nat×Obj)}{A F:Fr}{O:List Ow}{v:Value}{x:Operand}{f:FuncId}{xs:List Operand}{at_:Array TypeId}{vs:List Value}{dst:Option Nat}{ty:TypeId}{pos:String}{af:Array Edge}{gd:Option (Nat×Bool)}(hx:ev S x=.func (.func f) #[] #[])
  (ha:lD S xs=vs) (hp:plain Tryz.prog f=true) 
  (hc:∀w,SF w0 M H A F O w->Calls Tryz.prog f ⟨vs⟩ w λ e w'=>e=.returned v/\St w [] [] w') :
  aQ Tryz.prog S (SF w0 M H A F O) ⟨dst,.call {callee:=.value x,args:=⟨xs⟩,argTypes:=at_},ty,pos,af,gd⟩ Unit (λ _=>v) (λ _=>SF w0 M H A F O):=qz hx hp ha hc
theorem dt{l:List Pr}{k:ByteArray}{h:Nat}(hs:SA l)(hh:h<l.length)(hc:eK (l.getD h (⟨#[]⟩,0)).1 k=true)(j:Nat)(hj:j<h+1):eK (l.getD j (⟨#[]⟩,0)).1 k=true:=by
 rcases Nat.lt_succ_iff_lt_or_eq.1 hj with h1|rfl
 ·have:=List.pairwise_iff_getElem.1 hs j h (by omega) hh h1
  rw[<- lL,<- lL] at this
  exact nI this hc
 ·exact hc
theorem dp{l:List Pr}{k:ByteArray}{h:Nat}(hs:SA l)(hc:eK (l.getD h (⟨#[]⟩,0)).1 k=false)(j:Nat)(h1:h<=j)(hj:j<l.length):eK (l.getD j (⟨#[]⟩,0)).1 k=false:=by
 rcases Nat.lt_or_eq_of_le h1 with h2|rfl
 ·have:=List.pairwise_iff_getElem.1 hs h j (by omega) hj h2
  rw[<- lL,<- lL] at this
  exact dw hc (Hw this)
 ·exact hc
end

/- Pairs: Find, Put, Drop of the program. -/
end Go.Proofs.YtnilhhnfjfdokaaGreatDoor
namespace Go.Ct
section
open Go Go.RowKit
section
variable{P:Program}{n:Nat}{S:List (Nat×Value)}
variable{w0 w w':World}{M:List Nat}{H H':List (Nat×Obj)}{A F F':Fr}{O O':List Ow}{G:World->Prop}
variable{d:Nat}{ty:TypeId}{pos:String}{af:Array Edge}{gd:Option (Nat×Bool)}{dst:Option Nat}{x y z:Operand}{t t2 e:TypeId}{p a:Option Addr}{i m k c c2:Nat}
end
end
end Go.Ct
namespace Go.Proofs.YtnilhhnfjfdokaaGreatDoor
section
open Go.RowKit Go.Ct
section
variable{l:List Pr}{a:Option Addr}{c:Nat}{k:ByteArray}{v:Int}{w:World}
def iO(l:List Pr)(k:ByteArray):Option Int:=if SA l then oj l k else none
end
end

/- Pairs: the reference's Find, Put, Drop, Of, Equal. -/
section
open Go.RowKit Go.Ct
section
variable{l:List Pr}{a:Option Addr}{c:Nat}{k:ByteArray}{v:Int}{w:World}
end
end

/- Pairs: the algebra. -/
section
open Go.RowKit Go.Ct
section
variable{l X:List Pr}{a:Option Addr}{c M:Nat}{k j:ByteArray}{v z:Int}{w:World}
end
end

/- Bits of 64 bit numbers: plain laws. -/
end Go.Proofs.YtnilhhnfjfdokaaGreatDoor
namespace Go.Ct
section
open Go Go.RowKit
theorem kB{n:Nat}(h:n<18446744073709551616):IntKind.u64.wrap ((n:Nat):Int)=(n:Int):=by
 have h2:IntKind.u64.wrap (n:Int)=(n:Int)%18446744073709551616:=by simp[IntKind.wrap,IntKind.signed,IntKind.bits]
 omega
theorem xG(n:Nat)(h:n<18446744073709551616):(BitVec.ofInt IntKind.u64.bits (n:Int)).toNat=n:=by
 show(BitVec.ofInt 64 (n:Int)).toNat=n
 rw[BitVec.toNat_ofInt]
 omega
theorem lE{n m:Nat}(hn:n<18446744073709551616)(hm:m<18446744073709551616):lJ .u64 (n:Int) (m:Int)=((n &&& m:Nat):Int):=by
 unfold lJ
 rw[BitVec.toNat_and,xG n hn,xG m hm]
 exact kB (Nat.lt_of_le_of_lt Nat.and_le_left hn)
theorem Z6{n m:Nat}(hn:n<18446744073709551616)(hm:m<18446744073709551616):ki .u64 (n:Int) (m:Int)=((n ||| m:Nat):Int):=by
 unfold ki
 rw[BitVec.toNat_or,xG n hn,xG m hm]
 exact kB (Nat.or_lt_two_pow (n:=64) hn hm)
theorem Uz{n m:Nat}(hn:n<18446744073709551616)(hm:m<18446744073709551616):W8 .u64 (n:Int) (m:Int)=((n ^^^ m:Nat):Int):=by
 unfold W8
 rw[BitVec.toNat_xor,xG n hn,xG m hm]
 exact kB (Nat.xor_lt_two_pow (n:=64) hn hm)
theorem lA{n i:Nat}(hi:i<=64):lG .u64 (n:Int) (i:Int)=((n >>> i:Nat):Int):=by
 unfold lG
 rw[Int.toNat_natCast,show min i IntKind.u64.bits=i from Nat.min_eq_left hi,Nat.shiftRight_eq_div_pow]
 have:(2:Int)^i=((2^i:Nat):Int):=by simp
 rw[this,Int.fdiv_eq_ediv_of_nonneg _ (pR _)]
 rfl
theorem Ii{i:Nat}(hi:i<64):Ht .u64 1 (i:Int)=((2^i:Nat):Int):=by
 unfold Ht
 rw[Int.toNat_natCast,show min i IntKind.u64.bits=i from Nat.min_eq_left (Nat.le_of_lt hi),Int.one_mul]
 have:(2:Int)^i=((2^i:Nat):Int):=by simp
 rw[this]
 refine kB ?_
 have:=Nat.pow_lt_pow_right (a:=2) (by decide) hi
 omega
def iH(n:Nat):Nat->Nat
 | 0=>0
 | k+1=>iH n k+if n.testBit k then 1 else 0
theorem Gi(n:Nat):∀k,iH n k<=k
 | 0=>Nat.le_refl _
 | k+1=>by have:=Gi n k;simp only[iH];split<;>omega
theorem yA{n m:Nat}:∀{k:Nat},(∀i,i<k->n.testBit i=m.testBit i)->iH n k=iH m k
 | 0,_=>rfl
 | k+1,h=>by simp only[iH];rw[yA λ i hi=>h i (Nat.lt_succ_of_lt hi),h k (Nat.lt_succ_self k)]
theorem O2(n:Nat)(a:Nat):∀k,iH n (a+k)=iH n a+iH (n >>> a) k
 | 0=>rfl
 | k+1=>by
  rw[<- Nat.add_assoc]
  simp only[iH,O2 n a k,Nat.testBit_shiftRight]
  omega
theorem jX{h l i:Nat}(hl:l<256):(256*h+l).testBit i=if i<8 then l.testBit i else h.testBit (i-8):=Nat.testBit_two_pow_mul_add h (i:=8) hl i
theorem R7{h l:Nat}(hl:l<256)(k:Nat):iH (256*h+l) (8+k)=iH l 8+iH h k:=by
 rw[O2]
 congr 1
 ·exact yA λ i hi=>by rw[jX hl,if_pos hi]
 ·rw[Nat.shiftRight_eq_div_pow,show 2^8=256 from rfl]
  congr 1
  omega
theorem xM{a b c d:Nat}(hb:b<256)(hd:d<256):(256*a+b) &&& (256*c+d)=256*(a &&& c)+(b &&& d):=by
 have hbd:b &&& d<256:=Nat.lt_of_le_of_lt Nat.and_le_left hb
 refine Nat.eq_of_testBit_eq λ i=>?_
 rw[Nat.testBit_and,jX hb,jX hd,jX hbd]
 split
 ·rw[Nat.testBit_and]
 ·rw[Nat.testBit_and]
theorem Ee{a b s:Nat}(hb:b<256)(hs:s<=8):(256*a+b) >>> s=256*(a >>> s)+((a%2^s)*2^(8-s)+b >>> s):=by
 simp only[Nat.shiftRight_eq_div_pow]
 have h1:256=2^s*2^(8-s):=by rw[<- Nat.pow_add];rw[show s+(8-s)=8 by omega]
 have h2:=Nat.div_add_mod a (2^s)
 have hp:0<2^s:=Nat.two_pow_pos s
 have h3:256*a+b=2^s*(2^(8-s)*a)+b:=by rw[h1,Nat.mul_assoc]
 rw[h3,Nat.mul_add_div hp]
 have h4:2^(8-s)*a=256*(a/2^s)+a%2^s*2^(8-s):=by
  conv=>lhs;rw[<- h2]
  rw[h1,Nat.mul_add,Nat.mul_comm (a%2^s),<- Nat.mul_assoc,Nat.mul_comm (2^(8-s)) (2^s)]
 omega
def jJ(s:Nat)(m:Nat)(n:Nat):Nat:=((n >>> s) &&& m)+(n &&& m)
theorem Yl{a b s d:Nat}(hb:b<256)(hs:s<=8)(hd:d<2^(8-s)):((a%2^s)*2^(8-s)+b >>> s) &&& d=(b >>> s) &&& d:=by
 have hbs:b >>> s<2^(8-s):=by
  rw[Nat.shiftRight_eq_div_pow]
  refine Nat.div_lt_of_lt_mul ?_
  rw[<- Nat.pow_add,show s+(8-s)=8 by omega]
  exact hb
 refine Nat.eq_of_testBit_eq λ i=>?_
 rw[Nat.testBit_and,Nat.testBit_and,Nat.mul_comm,Nat.testBit_two_pow_mul_add _ hbs]
 split
 ·rfl
 ·rename_i h
  have:d.testBit i=false:=Nat.testBit_lt_two_pow (Nat.lt_of_lt_of_le hd (Nat.pow_le_pow_right (by decide) (by omega)))
  rw[this];simp
theorem Bo{s m a b d:Nat}(hb:b<256)(hs:s<=8)(hs0:0<s)(hd:d<2^(8-s)):jJ s (256*m+d) (256*a+b)=256*jJ s m a+jJ s d b:=by
 have hd':d<256:=Nat.lt_of_lt_of_le hd (Nat.pow_le_pow_right (n:=2) (by decide) (show 8-s<=8 by omega))
 have hL:(a%2^s)*2^(8-s)+b >>> s<256:=by
  have h1:256=2^s*2^(8-s):=by rw[<- Nat.pow_add];rw[show s+(8-s)=8 by omega]
  have h2:a%2^s<2^s:=Nat.mod_lt _ (Nat.two_pow_pos s)
  have h3:b >>> s<2^(8-s):=by
   rw[Nat.shiftRight_eq_div_pow]
   refine Nat.div_lt_of_lt_mul ?_
   rw[<- Nat.pow_add,show s+(8-s)=8 by omega]
   exact hb
  have h4:(a%2^s+1)*2^(8-s)<=2^s*2^(8-s):=Nat.mul_le_mul_right _ h2
  rw[Nat.add_mul,Nat.one_mul] at h4
  omega
 unfold jJ
 rw[Ee hb hs,xM hL hd',xM hb hd',Yl hb hs hd]
 omega
def cf(l:Nat):Nat:=(((jJ 2 51 (jJ 1 85 l)) >>> 4)+jJ 2 51 (jJ 1 85 l)) &&& 15
theorem Zu:∀l,l<256->jJ 1 85 l<256/\jJ 2 51 (jJ 1 85 l)<256/\jJ 2 51 (jJ 1 85 l)%16<=4/\jJ 2 51 (jJ 1 85 l)/16<=4/\cf l=iH l 8:=by decide +kernel
def C8(d:Nat):Nat->Nat
 | 0=>0
 | k+1=>256*C8 d k+d
theorem Bt:∀(k n:Nat),n<256^k ->
  ∃r,(∀q,q=(jJ 2 (C8 51 k) (jJ 1 (C8 85 k) n))->(((q >>> 4)+q) &&& C8 15 k)=r/\q<256^k/\q%16<=4)/\(∃ps:List Nat,ps.length=k/\(∀p∈ps,p<=8)/\r=ps.foldr (λ p acc=>p+256*acc) 0/\ps.sum=iH n (8*k))
 | 0,n,h=>⟨0,λ q hq=>by
   have h0:n=0:=by simpa using h
   subst h0
   subst hq
   simp[jJ,C8],[],rfl,by simp,rfl,by simp[iH]⟩
 | k+1,n,h=>by
  have hl:n%256<256:=Nat.mod_lt _ (by decide)
  have hn:n=256*(n/256)+n%256:=(Nat.div_add_mod n 256).symm
  have hk:n/256<256^k:=by
   refine Nat.div_lt_of_lt_mul ?_
   rw[Nat.mul_comm,<- Nat.pow_succ];exact h
  obtain⟨r,h1,ps,h2,h3,h4,h5⟩:=Bt k (n/256) hk
  obtain⟨b1,b2,b3,b4,b5⟩:=Zu (n%256) hl
  obtain⟨q1,q2,q3⟩:=h1 _ rfl
  generalize hQ:jJ 2 (C8 51 k) (jJ 1 (C8 85 k) (n/256))=Q at *
  refine⟨256*r+iH (n%256) 8,λ q hq=>?_,iH (n%256) 8::ps,by simp[h2],?_,?_,?_⟩
  ·have e:q=256*Q+jJ 2 51 (jJ 1 85 (n%256)):=by
    rw[hq]
    have e0:jJ 1 (C8 85 (k+1)) n=256*jJ 1 (C8 85 k) (n/256)+jJ 1 85 (n%256):=by
     have:=Bo (s:=1) (m:=C8 85 k) (a:=n/256) hl (by decide) (by decide) (show 85<2^(8-1) by decide)
     rw[<- hn] at this
     exact this
    rw[e0,<- hQ]
    exact Bo (s:=2) (m:=C8 51 k) b1 (by decide) (by decide) (show 51<2^(8-2) by decide)
   generalize hB:jJ 2 51 (jJ 1 85 (n%256))=B at *
   have hones:((B >>> 4)+B) &&& 15=iH (n%256) 8:=by rw[<- b5,cf,hB]
   have e4:q >>> 4=256*(Q >>> 4)+((Q%16)*16+B >>> 4):=by rw[e];exact Ee (s:=4) b2 (by decide)
   have eB:B >>> 4=B/16:=by rw[Nat.shiftRight_eq_div_pow]
   have hlow:(Q%16)*16+B >>> 4+B<256:=by rw[eB];omega
   have hsum:q >>> 4+q=256*(Q >>> 4+Q)+((Q%16)*16+B >>> 4+B):=by rw[e4,e];omega
   refine⟨?_,?_,?_⟩
   ·rw[hsum]
    show(256*(Q >>> 4+Q)+_) &&& (256*C8 15 k+15)=_
    rw[xM hlow (by decide),q1,<- hones]
    congr 1
    rw[Nat.and_two_pow_sub_one_eq_mod _ 4,Nat.and_two_pow_sub_one_eq_mod _ 4]
    omega
   ·rw[e,Nat.pow_succ];omega
   ·rw[e];omega
  ·intro p hp
   rcases List.mem_cons.1 hp with rfl|hp
   ·exact Gi _ 8
   ·exact h3 p hp
  ·simp only[List.foldr_cons,<- h4];omega
  ·rw[List.sum_cons,h5]
   conv=>rhs;rw[hn]
   rw[show 8*(k+1)=8+8*k by omega,R7 hl]
end

end Go.Ct
