/- Bits of 64 bit numbers: plain laws. -/
import Derived.Test.YtadnboagdhcedaaGreatDoorGMem
import Derived.Test.YtadnboagdhcedaaGreatDoorGNode3
import Derived.Test.YtadnboagdhcedaaGreatDoorGAr7
import Derived.Test.YtadnboagdhcedaaGreatDoorGJoin

set_option linter.unusedSimpArgs false
set_option linter.unusedVariables false
namespace Go.Ct
section
open Go Go.RowKit
theorem kB{n:Nat}(h:n<18446744073709551616):IntKind.u64.wrap ((n:Nat):Int)=(n:Int):=by
 have h2:IntKind.u64.wrap (n:Int)=(n:Int)%18446744073709551616:=by simp[IntKind.wrap,IntKind.signed,IntKind.bits]
 omega
theorem yJ(n:Nat)(h:n<18446744073709551616):(BitVec.ofInt IntKind.u64.bits (n:Int)).toNat=n:=by
 show(BitVec.ofInt 64 (n:Int)).toNat=n
 rw[BitVec.toNat_ofInt]
 omega
theorem kC{n m:Nat}(hn:n<18446744073709551616)(hm:m<18446744073709551616):mJ .u64 (n:Int) (m:Int)=((n &&& m:Nat):Int):=by
 unfold mJ
 rw[BitVec.toNat_and,yJ n hn,yJ m hm]
 exact kB (Nat.lt_of_le_of_lt Nat.and_le_left hn)
theorem ig{n m:Nat}(hn:n<18446744073709551616)(hm:m<18446744073709551616):tx .u64 (n:Int) (m:Int)=((n ||| m:Nat):Int):=by
 unfold tx
 rw[BitVec.toNat_or,yJ n hn,yJ m hm]
 exact kB (Nat.or_lt_two_pow (n:=64) hn hm)
theorem Zq{n m:Nat}(hn:n<18446744073709551616)(hm:m<18446744073709551616):iq .u64 (n:Int) (m:Int)=((n ^^^ m:Nat):Int):=by
 unfold iq
 rw[BitVec.toNat_xor,yJ n hn,yJ m hm]
 exact kB (Nat.xor_lt_two_pow (n:=64) hn hm)
theorem kP{n i:Nat}(hi:i<=64):mX .u64 (n:Int) (i:Int)=((n >>> i:Nat):Int):=by
 unfold mX
 rw[Int.toNat_natCast,show min i IntKind.u64.bits=i from Nat.min_eq_left hi,Nat.shiftRight_eq_div_pow]
 have:(2:Int)^i=((2^i:Nat):Int):=by simp
 rw[this,Int.fdiv_eq_ediv_of_nonneg _ (bE _)]
 rfl
theorem U2{i:Nat}(hi:i<64):V8 .u64 1 (i:Int)=((2^i:Nat):Int):=by
 unfold V8
 rw[Int.toNat_natCast,show min i IntKind.u64.bits=i from Nat.min_eq_left (Nat.le_of_lt hi),Int.one_mul]
 have:(2:Int)^i=((2^i:Nat):Int):=by simp
 rw[this]
 refine kB ?_
 have:=Nat.pow_lt_pow_right (a:=2) (by decide) hi
 omega
def eE(n:Nat):Nat->Nat
 | 0=>0
 | k+1=>eE n k+if n.testBit k then 1 else 0
theorem tC(n:Nat):∀k,eE n k<=k
 | 0=>Nat.le_refl _
 | k+1=>by have:=tC n k;simp only[eE];split<;>omega
theorem Fj{n m:Nat}:∀{k:Nat},(∀i,i<k->n.testBit i=m.testBit i)->eE n k=eE m k
 | 0,_=>rfl
 | k+1,h=>by simp only[eE];rw[Fj λ i hi=>h i (Nat.lt_succ_of_lt hi),h k (Nat.lt_succ_self k)]
theorem pE:∀k,eE 0 k=0
 | 0=>rfl
 | k+1=>by simp[eE,pE k]
theorem Q6(n:Nat)(a:Nat):∀k,eE n (a+k)=eE n a+eE (n >>> a) k
 | 0=>rfl
 | k+1=>by
  rw[<- Nat.add_assoc]
  simp only[eE,Q6 n a k,Nat.testBit_shiftRight]
  omega
theorem jO{h l i:Nat}(hl:l<256):(256*h+l).testBit i=if i<8 then l.testBit i else h.testBit (i-8):=Nat.testBit_two_pow_mul_add h (i:=8) hl i
theorem U8{h l:Nat}(hl:l<256)(k:Nat):eE (256*h+l) (8+k)=eE l 8+eE h k:=by
 rw[Q6]
 congr 1
 ·exact Fj λ i hi=>by rw[jO hl,if_pos hi]
 ·rw[Nat.shiftRight_eq_div_pow,show 2^8=256 from rfl]
  congr 1
  omega
theorem zM{a b c d:Nat}(hb:b<256)(hd:d<256):(256*a+b) &&& (256*c+d)=256*(a &&& c)+(b &&& d):=by
 have hbd:b &&& d<256:=Nat.lt_of_le_of_lt Nat.and_le_left hb
 refine Nat.eq_of_testBit_eq λ i=>?_
 rw[Nat.testBit_and,jO hb,jO hd,jO hbd]
 split
 ·rw[Nat.testBit_and]
 ·rw[Nat.testBit_and]
theorem Gh{a b s:Nat}(hb:b<256)(hs:s<=8):(256*a+b) >>> s=256*(a >>> s)+((a%2^s)*2^(8-s)+b >>> s):=by
 simp only[Nat.shiftRight_eq_div_pow]
 have h1:256=2^s*2^(8-s):=by rw[<- Nat.pow_add];rw[show s+(8-s)=8 by omega]
 have h2:=Nat.div_add_mod a (2^s)
 have hp:0<2^s:=Nat.two_pow_pos s
 have h3:256*a+b=2^s*(2^(8-s)*a)+b:=by rw[h1,Nat.mul_assoc]
 rw[h3,Nat.mul_add_div hp]
 have h4:2^(8-s)*a=256*(a/2^s)+a%2^s*2^(8-s):=by
  conv=>lhs;rw[<- h2]
  rw[h1,Nat.mul_add,Nat.mul_comm (a%2^s),<- Nat.mul_assoc,Nat.mul_comm (2^(8-s)) (2^s)]
 omega
def jA(s:Nat)(m:Nat)(n:Nat):Nat:=((n >>> s) &&& m)+(n &&& m)
theorem bl{a b s d:Nat}(hb:b<256)(hs:s<=8)(hd:d<2^(8-s)):((a%2^s)*2^(8-s)+b >>> s) &&& d=(b >>> s) &&& d:=by
 have hbs:b >>> s<2^(8-s):=by
  rw[Nat.shiftRight_eq_div_pow]
  refine Nat.div_lt_of_lt_mul ?_
  rw[<- Nat.pow_add,show s+(8-s)=8 by omega]
  exact hb
 refine Nat.eq_of_testBit_eq λ i=>?_
 rw[Nat.testBit_and,Nat.testBit_and,Nat.mul_comm,Nat.testBit_two_pow_mul_add _ hbs]
 split
 ·rfl
 ·rename_i h
  have:d.testBit i=false:=Nat.testBit_lt_two_pow (Nat.lt_of_lt_of_le hd (Nat.pow_le_pow_right (by decide) (by omega)))
  rw[this];simp
theorem D0{s m a b d:Nat}(hb:b<256)(hs:s<=8)(hs0:0<s)(hd:d<2^(8-s)):jA s (256*m+d) (256*a+b)=256*jA s m a+jA s d b:=by
 have hd':d<256:=Nat.lt_of_lt_of_le hd (Nat.pow_le_pow_right (n:=2) (by decide) (show 8-s<=8 by omega))
 have hL:(a%2^s)*2^(8-s)+b >>> s<256:=by
  have h1:256=2^s*2^(8-s):=by rw[<- Nat.pow_add];rw[show s+(8-s)=8 by omega]
  have h2:a%2^s<2^s:=Nat.mod_lt _ (Nat.two_pow_pos s)
  have h3:b >>> s<2^(8-s):=by
   rw[Nat.shiftRight_eq_div_pow]
   refine Nat.div_lt_of_lt_mul ?_
   rw[<- Nat.pow_add,show s+(8-s)=8 by omega]
   exact hb
  have h4:(a%2^s+1)*2^(8-s)<=2^s*2^(8-s):=Nat.mul_le_mul_right _ h2
  rw[Nat.add_mul,Nat.one_mul] at h4
  omega
 unfold jA
 rw[Gh hb hs,zM hL hd',zM hb hd',bl hb hs hd]
 omega
def mj(l:Nat):Nat:=(((jA 2 51 (jA 1 85 l)) >>> 4)+jA 2 51 (jA 1 85 l)) &&& 15
theorem bf:∀l,l<256->jA 1 85 l<256/\jA 2 51 (jA 1 85 l)<256/\jA 2 51 (jA 1 85 l)%16<=4/\jA 2 51 (jA 1 85 l)/16<=4/\mj l=eE l 8:=by decide +kernel
def pU(d:Nat):Nat->Nat
 | 0=>0
 | k+1=>256*pU d k+d
theorem D3:∀(k n:Nat),n<256^k ->
  ∃r,(∀q,q=(jA 2 (pU 51 k) (jA 1 (pU 85 k) n))->(((q >>> 4)+q) &&& pU 15 k)=r/\q<256^k/\q%16<=4)/\(∃ps:List Nat,ps.length=k/\(∀p∈ps,p<=8)/\r=ps.foldr (λ p acc=>p+256*acc) 0/\ps.sum=eE n (8*k))
 | 0,n,h=>⟨0,λ q hq=>by
   have h0:n=0:=by simpa using h
   subst h0
   subst hq
   simp[jA,pU],[],rfl,by simp,rfl,by simp[eE]⟩
 | k+1,n,h=>by
  have hl:n%256<256:=Nat.mod_lt _ (by decide)
  have hn:n=256*(n/256)+n%256:=(Nat.div_add_mod n 256).symm
  have hk:n/256<256^k:=by
   refine Nat.div_lt_of_lt_mul ?_
   rw[Nat.mul_comm,<- Nat.pow_succ];exact h
  obtain⟨r,h1,ps,h2,h3,h4,h5⟩:=D3 k (n/256) hk
  obtain⟨b1,b2,b3,b4,b5⟩:=bf (n%256) hl
  obtain⟨q1,q2,q3⟩:=h1 _ rfl
  generalize hQ:jA 2 (pU 51 k) (jA 1 (pU 85 k) (n/256))=Q at *
  refine⟨256*r+eE (n%256) 8,λ q hq=>?_,eE (n%256) 8::ps,by simp[h2],?_,?_,?_⟩
  ·have e:q=256*Q+jA 2 51 (jA 1 85 (n%256)):=by
    rw[hq]
    have e0:jA 1 (pU 85 (k+1)) n=256*jA 1 (pU 85 k) (n/256)+jA 1 85 (n%256):=by
     have:=D0 (s:=1) (m:=pU 85 k) (a:=n/256) hl (by decide) (by decide) (show 85<2^(8-1) by decide)
     rw[<- hn] at this
     exact this
    rw[e0,<- hQ]
    exact D0 (s:=2) (m:=pU 51 k) b1 (by decide) (by decide) (show 51<2^(8-2) by decide)
   generalize hB:jA 2 51 (jA 1 85 (n%256))=B at *
   have hones:((B >>> 4)+B) &&& 15=eE (n%256) 8:=by rw[<- b5,mj,hB]
   have e4:q >>> 4=256*(Q >>> 4)+((Q%16)*16+B >>> 4):=by rw[e];exact Gh (s:=4) b2 (by decide)
   have eB:B >>> 4=B/16:=by rw[Nat.shiftRight_eq_div_pow]
   have hlow:(Q%16)*16+B >>> 4+B<256:=by rw[eB];omega
   have hsum:q >>> 4+q=256*(Q >>> 4+Q)+((Q%16)*16+B >>> 4+B):=by rw[e4,e];omega
   refine⟨?_,?_,?_⟩
   ·rw[hsum]
    show(256*(Q >>> 4+Q)+_) &&& (256*pU 15 k+15)=_
    rw[zM hlow (by decide),q1,<- hones]
    congr 1
    rw[Nat.and_two_pow_sub_one_eq_mod _ 4,Nat.and_two_pow_sub_one_eq_mod _ 4]
    omega
   ·rw[e,Nat.pow_succ];omega
   ·rw[e];omega
  ·intro p hp
   rcases List.mem_cons.1 hp with rfl|hp
   ·exact tC _ 8
   ·exact h3 p hp
  ·simp only[List.foldr_cons,<- h4];omega
  ·rw[List.sum_cons,h5]
   conv=>rhs;rw[hn]
   rw[show 8*(k+1)=8+8*k by omega,U8 hl]
end

/- The last step of OnesCount64: numbers alone. -/
section
theorem y7{x a b:Nat}(ha:a<256)(h:x=a+256*b):x/256=b:=by omega
theorem yz{x a b:Nat}(ha:a<65536)(h:x=a+65536*b):x/65536=b:=by omega
theorem ze{x a b:Nat}(ha:a<4294967296)(h:x=a+4294967296*b):x/4294967296=b:=by omega
theorem po{t p s B:Nat}(e:t=p+256*s)(hp:p<=8)(hs:s<=B):t<=8+256*B:=by omega
theorem fa{r t1 t2 t3 p0 p1 p2:Nat}(e0:r=p0+256*t1)(e1:t1=p1+256*t2)(e2:t2=p2+256*t3):r+t1=((p0+p1)+256*(p1+p2))+65536*(t2+t3):=by omega
theorem ca{p0 p1 p2:Nat}(g0:p0<=8)(g1:p1<=8)(g2:p2<=8):(p0+p1)+256*(p1+p2)<65536:=by omega
theorem fb0{t2 t3 t4 t5 t6 t7 p2 p3 p4 p5 p6:Nat}(e2:t2=p2+256*t3)(e3:t3=p3+256*t4)(e4:t4=p4+256*t5)(e5:t5=p5+256*t6)(e6:t6=p6+256*t7):t2+t3+t4+t5=(p2+p3+p4+p5)+256*(p3+p4+p5+p6)+65536*(t4+t5+t6+t7):=by
 subst e6
 omega
theorem fb{r t1 t2 t3 t4 t5 t6 t7 p0 p1 p2 p3 p4 p5 p6:Nat}(f4:r+t1=((p0+p1)+256*(p1+p2))+65536*(t2+t3))(e2:t2=p2+256*t3)(e3:t3=p3+256*t4)(e4:t4=p4+256*t5)(e5:t5=p5+256*t6)(e6:t6=p6+256*t7) :
  r+t1+(t2+t3)=((p0+p1+p2+p3)+256*(p1+p2+p3+p4)+65536*(p2+p3+p4+p5)+16777216*(p3+p4+p5+p6))+4294967296*(t4+t5+t6+t7):=by
 have h1:=fb0 e2 e3 e4 e5 e6
 have h2:t2+t3=(p2+p3)+256*(t3+t4):=by clear h1 f4 e4 e5 e6;omega
 have h3:t3+t4=(p3+p4)+256*(t4+t5):=by clear h1 h2 f4 e2 e5 e6;omega
 clear e2 e3 e4 e5 e6
 omega
theorem cb{p0 p1 p2 p3 p4 p5 p6:Nat}(g0:p0<=8)(g1:p1<=8)(g2:p2<=8)(g3:p3<=8)(g4:p4<=8)(g5:p5<=8)(g6:p6<=8):(p0+p1+p2+p3)+256*(p1+p2+p3+p4)+65536*(p2+p3+p4+p5)+16777216*(p3+p4+p5+p6)<4294967296:=by omega
theorem fc{r t1:Nat}(b0:r<=8+256*(8+256*(8+256*(8+256*(8+256*(8+256*(8+256*8)))))))(b1:t1<=8+256*(8+256*(8+256*(8+256*(8+256*(8+256*8)))))):r+t1<9223372036854775808:=by omega
theorem fd{r t1 t2 t3:Nat}(b0:r<=8+256*(8+256*(8+256*(8+256*(8+256*(8+256*(8+256*8)))))))(b1:t1<=8+256*(8+256*(8+256*(8+256*(8+256*(8+256*8))))))(b2:t2<=8+256*(8+256*(8+256*(8+256*(8+256*8)))))(b3:t3<=8+256*(8+256*(8+256*(8+256*8)))):r+t1+(t2+t3)<9223372036854775808:=by omega
theorem fe{p1 p2 p3 p4 p5 p6 t4 t5 t6 t7:Nat}(g1:p1<=8)(g2:p2<=8)(g3:p3<=8)(g4:p4<=8)(g5:p5<=8)(g6:p6<=8)(b4:t4<=8+256*(8+256*(8+256*8)))(b5:t5<=8+256*(8+256*8))(b6:t6<=8+256*8)(b7:t7<=8) :
  (p1+p2+p3+p4)+256*(p2+p3+p4+p5)+65536*(p3+p4+p5+p6)+16777216*(t4+t5+t6+t7)+(t5+t6+t7)<36028797018963968:=by omega
theorem ff{p0 p1 p2 p3 p4 p5 p6 p7 t4 t5 t6 t7:Nat}(e4:t4=p4+256*t5)(e5:t5=p5+256*t6)(e6:t6=p6+256*t7)(e7:t7=p7) :
  ((p0+p1+p2+p3)+256*(p1+p2+p3+p4)+65536*(p2+p3+p4+p5)+16777216*(p3+p4+p5+p6))+4294967296*(t4+t5+t6+t7)+(t4+t5+t6+t7) =
   (p0+p1+p2+p3+p4+p5+p6+p7)+256*((p1+p2+p3+p4)+256*(p2+p3+p4+p5)+65536*(p3+p4+p5+p6)+16777216*(t4+t5+t6+t7)+(t5+t6+t7)):=by
 have h:t4+t5+t6+t7=(p4+p5+p6+p7)+256*(t5+t6+t7):=by omega
 generalize t4+t5+t6+t7=s at *
 clear e4 e5 e6 e7
 omega
theorem Yu{p0 p1 p2 p3 p4 p5 p6 p7 r t1 t2 t3 t4 t5 t6 t7:Nat}(g0:p0<=8)(g1:p1<=8)(g2:p2<=8)(g3:p3<=8)(g4:p4<=8)(g5:p5<=8)(g6:p6<=8)(g7:p7<=8)
  (e0:r=p0+256*t1) (e1:t1=p1+256*t2) (e2:t2=p2+256*t3) (e3:t3=p3+256*t4) (e4:t4=p4+256*t5) (e5:t5=p5+256*t6) (e6:t6=p6+256*t7) (e7:t7=p7) :
  r+r/256<9223372036854775808/\(r+r/256)+(r+r/256)/65536<9223372036854775808/\∃K,K<36028797018963968/\((r+r/256)+(r+r/256)/65536)+((r+r/256)+(r+r/256)/65536)/4294967296=(p0+p1+p2+p3+p4+p5+p6+p7)+256*K:=by
 have b7:t7<=8:=by rw[e7];exact g7
 have b6:=po e6 g6 b7
 have b5:=po e5 g5 b6
 have b4:=po e4 g4 b5
 have b3:=po e3 g3 b4
 have b2:=po e2 g2 b3
 have b1:=po e1 g1 b2
 have b0:=po e0 g0 b1
 have f4:r+t1=((p0+p1)+256*(p1+p2))+65536*(t2+t3):=fa e0 e1 e2
 have c4:(p0+p1)+256*(p1+p2)<65536:=ca g0 g1 g2
 have f5:r+t1+(t2+t3)=((p0+p1+p2+p3)+256*(p1+p2+p3+p4)+65536*(p2+p3+p4+p5)+16777216*(p3+p4+p5+p6))+4294967296*(t4+t5+t6+t7):=fb f4 e2 e3 e4 e5 e6
 have c5:=cb g0 g1 g2 g3 g4 g5 g6
 rw[y7 (Nat.lt_of_le_of_lt g0 (by decide)) e0,yz c4 f4,ze c5 f5]
 refine⟨fc b0 b1,fd b0 b1 b2 b3,(p1+p2+p3+p4)+256*(p2+p3+p4+p5)+65536*(p3+p4+p5+p6)+16777216*(t4+t5+t6+t7)+(t5+t6+t7),?_,?_⟩
 ·exact fe g1 g2 g3 g4 g5 g6 b4 b5 b6 b7
 ·rw[f5];exact ff e4 e5 e6 e7
end

/- Bits, the second part. -/
section
open Go Go.RowKit
theorem qo{c K:Nat}(hc:c<=64)(hK:K<36028797018963968):mJ .i64 (IntKind.i64.wrap ((c+256*K:Nat):Int)) 127=(c:Int):=by
 rw[wrap_i64 (by omega) (by omega)]
 unfold mJ
 have h1:(BitVec.ofInt IntKind.i64.bits ((c+256*K:Nat):Int)).toNat=c+256*K:=by
  show(BitVec.ofInt 64 ((c+256*K:Nat):Int)).toNat=_
  rw[BitVec.toNat_ofInt]
  omega
 have h2:(BitVec.ofInt IntKind.i64.bits 127).toNat=127:=by decide
 rw[BitVec.toNat_and,h1,h2,show(127:Nat)=2^7-1 from rfl,Nat.and_two_pow_sub_one_eq_mod]
 have h3:(c+256*K)%2^7=c:=by omega
 rw[h3]
 exact wrap_i64 (by omega) (by omega)
theorem nI{n:Nat}(hn:n<18446744073709551616):vE (n:Int)=((eE n 64:Nat):Int):=by
 obtain⟨r,h1,ps,h2,h3,h4,h5⟩:=D3 8 n hn
 obtain⟨q1,q2,_⟩:=h1 _ rfl
 match ps,h2 with
 | [p0,p1,p2,p3,p4,p5,p6,p7],_ =>
  simp only[List.mem_cons,List.not_mem_nil,or_false,forall_eq_or_imp,forall_eq] at h3
  simp only[List.foldr_cons,List.foldr_nil] at h4
  simp only[List.sum_cons,List.sum_nil] at h5
  obtain⟨g0,g1,g2,g3,g4,g5,g6,g7⟩:=h3
  have b5:jA 1 6148914691236517205 n<18446744073709551616:=by
   unfold jA
   have h1:(n >>> 1) &&& 6148914691236517205<=6148914691236517205:=Nat.and_le_right
   have h2:n &&& 6148914691236517205<=6148914691236517205:=Nat.and_le_right
   omega
  have e1:∀m:Nat,m<18446744073709551616->IntKind.u64.wrap (mJ .u64 (mX .u64 (m:Int) 1) 6148914691236517205+mJ .u64 (m:Int) 6148914691236517205)=((jA 1 6148914691236517205 m:Nat):Int):=λ m hm=>by
   have hs:m >>> 1<18446744073709551616:=Nat.lt_of_le_of_lt (Nat.shiftRight_le _ _) hm
   have r1:mX .u64 (m:Int) 1=((m >>> 1:Nat):Int):=kP (i:=1) (by decide)
   have a1:mJ .u64 ((m >>> 1:Nat):Int) 6148914691236517205=(((m >>> 1) &&& 6148914691236517205:Nat):Int):=kC hs (m:=6148914691236517205) (by decide)
   have a2:mJ .u64 (m:Int) 6148914691236517205=((m &&& 6148914691236517205:Nat):Int):=kC hm (m:=6148914691236517205) (by decide)
   rw[r1,a1,a2,<- Int.natCast_add]
   refine kB ?_
   have h1:(m >>> 1) &&& 6148914691236517205<=6148914691236517205:=Nat.and_le_right
   have h2:m &&& 6148914691236517205<=6148914691236517205:=Nat.and_le_right
   omega
  have e2:∀m:Nat,m<18446744073709551616->IntKind.u64.wrap (mJ .u64 (mX .u64 (m:Int) 2) 3689348814741910323+mJ .u64 (m:Int) 3689348814741910323)=((jA 2 3689348814741910323 m:Nat):Int):=λ m hm=>by
   have hs:m >>> 2<18446744073709551616:=Nat.lt_of_le_of_lt (Nat.shiftRight_le _ _) hm
   have r1:mX .u64 (m:Int) 2=((m >>> 2:Nat):Int):=kP (i:=2) (by decide)
   have a1:mJ .u64 ((m >>> 2:Nat):Int) 3689348814741910323=(((m >>> 2) &&& 3689348814741910323:Nat):Int):=kC hs (m:=3689348814741910323) (by decide)
   have a2:mJ .u64 (m:Int) 3689348814741910323=((m &&& 3689348814741910323:Nat):Int):=kC hm (m:=3689348814741910323) (by decide)
   rw[r1,a1,a2,<- Int.natCast_add]
   refine kB ?_
   have h1:(m >>> 2) &&& 3689348814741910323<=3689348814741910323:=Nat.and_le_right
   have h2:m &&& 3689348814741910323<=3689348814741910323:=Nat.and_le_right
   omega
  have m5:pU 85 8=6148914691236517205:=by decide
  have m3:pU 51 8=3689348814741910323:=by decide
  have mf:pU 15 8=1085102592571150095:=by decide
  rw[m5,m3] at q1 q2
  rw[mf] at q1
  unfold vE
  simp only[]
  rw[e1 n hn,e2 _ b5]
  generalize jA 2 3689348814741910323 (jA 1 6148914691236517205 n)=Q at *
  have hQ:Q<18446744073709551616:=q2
  have hr:r<18446744073709551616:=by rw[<- q1];exact Nat.lt_of_le_of_lt Nat.and_le_right (by decide)
  have e3:mJ .u64 (IntKind.u64.wrap (mX .u64 (Q:Int) 4+(Q:Int))) 1085102592571150095=(r:Int):=by
   have r1:mX .u64 (Q:Int) 4=((Q >>> 4:Nat):Int):=kP (i:=4) (by decide)
   rw[r1,<- Int.natCast_add]
   have h2:IntKind.u64.wrap ((Q >>> 4+Q:Nat):Int)=(((Q >>> 4+Q)%18446744073709551616:Nat):Int):=by
    have:IntKind.u64.wrap ((Q >>> 4+Q:Nat):Int)=((Q >>> 4+Q:Nat):Int)%18446744073709551616:=by simp[IntKind.wrap,IntKind.signed,IntKind.bits]
    rw[this];omega
   rw[h2]
   have a1:=kC (n:=(Q >>> 4+Q)%18446744073709551616) (m:=1085102592571150095) (Nat.mod_lt _ (by decide)) (by decide)
   refine a1.trans ?_
   rw[<- q1]
   congr 1
   refine Nat.eq_of_testBit_eq λ i=>?_
   rw[Nat.testBit_and,Nat.testBit_and,show(18446744073709551616:Nat)=2^64 from rfl,Nat.testBit_mod_two_pow]
   by_cases hi:i<64
   ·simp[hi]
   ·have:(1085102592571150095:Nat).testBit i=false:=Nat.testBit_lt_two_pow (Nat.lt_of_lt_of_le (by decide:(1085102592571150095:Nat)<2^64) (Nat.pow_le_pow_right (by decide) (by omega)))
    rw[this];simp
  rw[e3]
  have s1:∀m:Nat,mX .u64 (m:Int) 8=((m/256:Nat):Int):=λ m=>by
   have:mX .u64 (m:Int) 8=((m >>> 8:Nat):Int):=kP (i:=8) (by decide)
   rw[this,Nat.shiftRight_eq_div_pow]
  have s2:∀m:Nat,mX .u64 (m:Int) 16=((m/65536:Nat):Int):=λ m=>by
   have:mX .u64 (m:Int) 16=((m >>> 16:Nat):Int):=kP (i:=16) (by decide)
   rw[this,Nat.shiftRight_eq_div_pow]
  have s3:∀m:Nat,mX .u64 (m:Int) 32=((m/4294967296:Nat):Int):=λ m=>by
   have:mX .u64 (m:Int) 32=((m >>> 32:Nat):Int):=kP (i:=32) (by decide)
   rw[this,Nat.shiftRight_eq_div_pow]
  have w64:∀m:Nat,m<9223372036854775808->IntKind.u64.wrap ((m:Nat):Int)=(m:Int):=λ m hm=>kB (by omega)
  have hs:eE n 64=p0+p1+p2+p3+p4+p5+p6+p7:=by rw[show(64:Nat)=8*8 from rfl,<- h5];omega
  have hc:=tC n 64
  have hx:=Yu (t7:=p7) (t6:=p6+256*p7) (t5:=p5+256*(p6+256*p7)) (t4:=p4+256*(p5+256*(p6+256*p7))) (t3:=p3+256*(p4+256*(p5+256*(p6+256*p7)))) (t2:=p2+256*(p3+256*(p4+256*(p5+256*(p6+256*p7))))) (t1:=p1+256*(p2+256*(p3+256*(p4+256*(p5+256*(p6+256*p7)))))) (r:=r) g0 g1 g2 g3 g4 g5 g6 g7 (by rw[h4];rfl) rfl rfl rfl rfl rfl rfl rfl
  clear h4 q1 q2 e3 e1 e2 b5 h1 hr hQ hn m5 m3 mf h5
  obtain⟨x4,x5,K,hK,x6⟩:=hx
  rw[s1,<- Int.natCast_add,w64 _ x4,s2,<- Int.natCast_add,w64 _ x5,s3,<- Int.natCast_add,x6,<- hs,w64 _ (by omega)]
  exact qo hc hK
end

/- The functions on bitmaps. -/
section
open Go Go.RowKit
def nZ(n:Nat)(i:Int):Bool:=decide (0<=i)&&(decide (i<64)&&n.testBit i.toNat)
theorem jf(n:Nat){i:Int}(h:i<0):nZ n i=false:=by simp[nZ];omega
theorem Pv(n:Nat){i:Int}(h:64<=i):nZ n i=false:=by simp[nZ];omega
theorem xP(n:Nat){i:Int}(h0:0<=i)(h1:i<64):nZ n i=n.testBit i.toNat:=by simp[nZ,h0,h1]
theorem dk{n:Nat}(hn:n<18446744073709551616){i:Int}(h0:0<=i)(h1:i<64):(mJ .u64 (mX .u64 (n:Int) i) 1==1)=nZ n i:=by
 obtain⟨k,rfl⟩:=Int.eq_ofNat_of_zero_le h0
 rw[xP n h0 h1,kP (by omega)]
 have h2:mJ .u64 ((n >>> k:Nat):Int) 1=(((n >>> k) &&& 1:Nat):Int):=kC (Nat.lt_of_le_of_lt (Nat.shiftRight_le _ _) hn) (m:=1) (by decide)
 rw[h2]
 simp only[Int.toNat_natCast,Nat.testBit,Nat.and_comm 1]
 rw[Nat.and_one_is_mod]
 rcases Nat.mod_two_eq_zero_or_one (n >>> k) with h|h<;>rw[h]<;>rfl
def oR(n:Nat)(i:Int):Nat:=eE n (min i.toNat 64)
def dB(n:Nat)(i:Int):Nat:=if 0<=i/\i<64 then n ||| 2^i.toNat else n
def sO(n:Nat)(i:Int):Nat:=if 0<=i/\i<64 then n ^^^ (n &&& 2^i.toNat) else n
theorem Yp{n:Nat}(hn:n<18446744073709551616){i:Int}(h0:0<=i)(h1:i<64):tx .u64 (n:Int) (V8 .u64 1 i)=((dB n i:Nat):Int):=by
 obtain⟨k,rfl⟩:=Int.eq_ofNat_of_zero_le h0
 have hp:=Nat.pow_lt_pow_right (a:=2) (by decide) (show k<64 by omega)
 rw[U2 (by omega),ig hn (by omega),dB,if_pos ⟨h0,h1⟩]
 rfl
theorem wZ{n:Nat}(hn:n<18446744073709551616)(i:Int):dB n i<18446744073709551616:=by
 unfold dB
 split
 ·rename_i h
  have hp:=Nat.pow_lt_pow_right (a:=2) (by decide) (show i.toNat<64 by omega)
  exact Nat.or_lt_two_pow (n:=64) hn hp
 ·exact hn
end
end Go.Ct
namespace Go.Proofs.YtadnboagdhcedaaGreatDoor
section
open Go.RowKit Go.Ct
theorem Lb{n:Nat}(hn:n<18446744073709551616)(i:Int)(w:World):Calls Tryz.prog 106 #[.int .u64 (n:Int),.int .i64 i] w λ e w'=>e=.returned (.bool (nZ n i))/\St w [] [] w':=by
 refine enter Tryz.func106 Tryz.ntmps106 rfl rfl (SF.s0 w) ?_
 simp only[cR]
 refine cN ?_;refine J2 ?_;refine lU ?_;refine aB ?_
 (refine eR 7 (λ g7=>?_) (λ g7=>?_)<;>refine Ka1 ?_)
 all_goals (refine s7 ?_;refine aB ?_)
 all_goals (first|refine aH ?_|(refine eR 11 (λ g11=>?_) (λ g11=>?_)<;>refine Ka1 ?_))
 all_goals (refine Ka1 ?_;(first|refine aH ?_|(refine aF ?_;refine lJ ?_));(first|refine aH ?_|(refine aF ?_;refine Aw ?_));(first|refine aH ?_|(refine aF ?_;refine wI ?_));refine wQ ?_;refine J1 ?_)
 all_goals
 refine aN Tryz.results106 (λ w hw=>?_)
 first|(rw[jf n (by omega)];exact⟨rfl,hw.done⟩)|(rw[Pv n (by omega)];exact⟨rfl,hw.done⟩)|(rw[<- dk hn (by omega) (by omega)];exact⟨rfl,hw.done⟩)
theorem Je{n:Nat}(hn:n<18446744073709551616)(i:Int)(w:World):Calls Tryz.prog 147 #[.int .u64 (n:Int),.int .i64 i] w λ e w'=>e=.returned (.int .i64 ((oR n i:Nat):Int))/\St w [] [] w':=by
 refine enter Tryz.func147 Tryz.ntmps147 rfl rfl (SF.s0 w) ?_
 simp only[cR]
 refine cN ?_;refine Jb ?_;refine K5 ?_
 refine eS [5,6,7,8,9,10,11,12,13,14,15,16,17,18,19,20] (λ k=>[(5,.int .i64 ((eE n k:Nat):Int)),(6,.int .i64 ((k:Nat):Int))]) (λ k=>k<=64/\(k:Int)<=max i 0) (λ k=>64-k) (0) (⟨by decide,by omega⟩) ?_ (λ k f hx=>?_)
 ·repeat (first|exact bB _|refine aW (by exact rfl) ?_)
 dsimp only[gG,List.map,List.cons_append,List.nil_append]
 have hcl:=tC n k
 refine kT ?_;refine Gq ?_
 (refine eR 9 (λ g9=>?_) (λ g9=>?_)<;>refine Ka1 ?_)
 all_goals (refine Ka1 ?_;refine s7 ?_;refine aI ?_)
 all_goals
 refine aZ (λ c13=>?_) (λ c13=>?_)
 ·try exact nv c13
  all_goals (refine oW ?_;refine iF ?_;refine aR (cV (hc:=λ w1 hw=>Lb hn (k:Int) w1)) (λ x18=>?_);refine aI ?_)
  all_goals
   refine aZ (λ c18=>?_) (λ c18=>?_)
   ·refine Ba ?_;refine eV ?_;refine Ba ?_
    refine dJ (k+1) ?_ ?_ ?_
    ·omega
    ·repeat' (first|exact bB _|refine aW ?_ ?_)
     all_goals (first|exact rfl|(rw[xP n (by omega) (by omega),Int.toNat_natCast] at *;conv=>{lhs;whnf};congr 2;simp only[eE];simp_all;done))
    ·omega
   ·refine lC ?_;refine Ba ?_
    refine dJ (k+1) ?_ ?_ ?_
    ·omega
    ·repeat' (first|exact bB _|refine aW ?_ ?_)
     all_goals (first|exact rfl|(rw[xP n (by omega) (by omega),Int.toNat_natCast] at *;conv=>{lhs;whnf};congr 2;simp only[eE];simp_all;done))
    ·omega
 ·all_goals (refine bG rfl ?_;refine Ka6 ?_)
  all_goals
   refine aN Tryz.results147 (λ w hw=>?_)
   have:oR n i=eE n k:=by unfold oR;congr 1;omega
   rw[this]
   exact⟨rfl,hw.done⟩
theorem Mx{n:Nat}(hn:n<18446744073709551616)(w:World):Calls Tryz.prog 138 #[.int .u64 (n:Int)] w λ e w'=>e=.returned (.int .i64 ((eE n 64:Nat):Int))/\St w [] [] w':=by
 refine enter Tryz.func138 Tryz.ntmps138 rfl rfl (SF.s0 w) ?_
 simp only[cR]
 refine cN ?_;refine J2 ?_;refine aR (cV (hc:=λ w1 hw=>Je hn 64 w1)) (λ x4=>?_);refine J1 ?_
 refine aN Tryz.results138 (λ w hw=>?_)
 exact⟨rfl,hw.done⟩
theorem Zd{n:Nat}(hn:n<18446744073709551616)(w:World):Calls Tryz.prog 73 #[.int .u64 (n:Int)] w λ e w'=>e=.returned (.int .i64 ((eE n 64:Nat):Int))/\St w [] [] w':=by
 rw[<- nI hn];exact O3 _ w
theorem lD{n:Nat}(hn:n<18446744073709551616)(i:Int)(w:World):Calls Tryz.prog 164 #[.int .u64 (n:Int),.int .i64 i] w λ e w'=>e=.returned (.int .u64 ((dB n i:Nat):Int))/\St w [] [] w':=by
 refine enter Tryz.func164 Tryz.ntmps164 rfl rfl (SF.s0 w) ?_
 simp only[cR]
 refine Ka7 ?_;refine Gq ?_
 (refine eR 7 (λ g7=>?_) (λ g7=>?_)<;>refine Ka1 ?_)
 all_goals (refine Kc1 ?_)
 all_goals
 refine aZ (λ c10=>?_) (λ c10=>?_)
 ·all_goals (refine Ka6 ?_)
  all_goals
   refine aN Tryz.results164 (λ w hw=>?_)
   (rw[show dB n i=n by unfold dB;rw[if_neg (by omega)]];exact⟨rfl,hw.done⟩)
 ·try exact nv c10
  all_goals (refine yT ?_;refine lJ ?_;refine wh ?_;refine zv ?_;refine J1 ?_)
  all_goals
   refine aN Tryz.results164 (λ w hw=>?_)
   (rw[<- Yp hn (by omega) (by omega)];exact⟨rfl,hw.done⟩)
end

/- Nodes and lists of pairs out of tapes. -/
end Go.Proofs.YtadnboagdhcedaaGreatDoor
namespace Go.Ct
section
end
end Go.Ct
namespace Go.Proofs.YtadnboagdhcedaaGreatDoor
section
open Go.RowKit Go.Ct
end

/- A node out of a tape. -/
section
open Go.RowKit Go.Ct
end

/- Memories that come out of tapes are proper. -/
section
open Go.Ct
end

/- A memory out of a tape. -/
end Go.Proofs.YtadnboagdhcedaaGreatDoor
namespace Go.Ct
section
end
end Go.Ct
namespace Go.Proofs.YtadnboagdhcedaaGreatDoor
section
open Go.RowKit Go.Ct
end

/- Loads out of lists that are known. -/
end Go.Proofs.YtadnboagdhcedaaGreatDoor
namespace Go.Ct
section
open Go Go.RowKit
section
variable{P:Program}{S:List (Nat×Value)}{w0 w w':World}{M:List Nat}{H:List (Nat×Obj)}{A F:Fr}{O:List Ow}{d:Nat}{ty t:TypeId}{pos:String}{af:Array Edge}{gd:Option (Nat×Bool)}{x y:Operand}{v:Value}
end
end

/- Lists of things of some cells each. -/
section
open Go Go.RowKit
section
variable{w0 w w':World}{M:List Nat}{H:List (Nat×Obj)}{A F:Fr}{O:List Ow}
variable{P:Program}{S:List (Nat×Value)}{G:World->Prop}{d:Nat}{ty:TypeId}{pos:String}{af:Array Edge}{gd:Option (Nat×Bool)}{x y:Operand}{t t2 e:TypeId}{p a:Option Addr}{i m k c c2 sz:Nat}
variable{α:Type}{g:α->List Value}{z:α}
end
end

end Go.Ct
