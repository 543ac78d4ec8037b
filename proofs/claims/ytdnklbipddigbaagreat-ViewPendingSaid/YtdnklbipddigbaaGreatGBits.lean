/- Merged. -/
import Derived.Test.YtdnklbipddigbaaGreatGMem
import Derived.Test.YtdnklbipddigbaaGreatAuto
import Derived.Test.YtdnklbipddigbaaGreatGSlices
set_option linter.unusedSimpArgs false
set_option linter.unusedVariables false
namespace Go.Ct
open Go Go.RowKit
section
theorem wrap_u64n{n:Nat}(h:n<18446744073709551616):IntKind.u64.wrap ((n:Nat):Int)=(n:Int):=by
 have h2:IntKind.u64.wrap (n:Int)=(n:Int)%18446744073709551616:=by simp[IntKind.wrap,IntKind.signed,IntKind.bits]
 omega
theorem bv_nat(n:Nat)(h:n<18446744073709551616):(BitVec.ofInt IntKind.u64.bits (n:Int)).toNat=n:=by show(BitVec.ofInt 64 (n:Int)).toNat=n;rw[BitVec.toNat_ofInt];omega
theorem rAnd_nat{n m:Nat}(hn:n<18446744073709551616)(hm:m<18446744073709551616):rAnd .u64 (n:Int) (m:Int)=((n &&& m:Nat):Int):=by unfold rAnd;rw[BitVec.toNat_and,bv_nat n hn,bv_nat m hm];exact wrap_u64n (Nat.lt_of_le_of_lt Nat.and_le_left hn)
theorem rOr_nat{n m:Nat}(hn:n<18446744073709551616)(hm:m<18446744073709551616):rOr .u64 (n:Int) (m:Int)=((n ||| m:Nat):Int):=by unfold rOr;rw[BitVec.toNat_or,bv_nat n hn,bv_nat m hm];exact wrap_u64n (Nat.or_lt_two_pow (n:=64) hn hm)
theorem rXor_nat{n m:Nat}(hn:n<18446744073709551616)(hm:m<18446744073709551616):rXor .u64 (n:Int) (m:Int)=((n ^^^ m:Nat):Int):=by unfold rXor;rw[BitVec.toNat_xor,bv_nat n hn,bv_nat m hm];exact wrap_u64n (Nat.xor_lt_two_pow (n:=64) hn hm)
theorem rShr_nat{n i:Nat}(hi:i<=64):rShr .u64 (n:Int) (i:Int)=((n >>> i:Nat):Int):=by
 unfold rShr;rw[Int.toNat_natCast,show min i IntKind.u64.bits=i from Nat.min_eq_left hi,Nat.shiftRight_eq_div_pow];have:(2:Int)^i=((2^i:Nat):Int):=by simp
 rw[this,Int.fdiv_eq_ediv_of_nonneg _ (nn0 _)];rfl
theorem rShl_one{i:Nat}(hi:i<64):rShl .u64 1 (i:Int)=((2^i:Nat):Int):=by
 unfold rShl;rw[Int.toNat_natCast,show min i IntKind.u64.bits=i from Nat.min_eq_left (Nat.le_of_lt hi),Int.one_mul];have:(2:Int)^i=((2^i:Nat):Int):=by simp
 rw[this];refine wrap_u64n ?_;have:=Nat.pow_lt_pow_right (a:=2) (by decide) hi;omega
def cnt(n:Nat):Nat->Nat
 | 0=>0
 | k+1=>cnt n k+if n.testBit k then 1 else 0
theorem cnt_le(n:Nat):∀k,cnt n k<=k
 | 0=>Nat.le_refl _
 | k+1=>by have:=cnt_le n k;simp only[cnt];split<;>omega
theorem cnt_congr{n m:Nat}:∀{k:Nat},(∀i,i<k->n.testBit i=m.testBit i)->cnt n k=cnt m k
 | 0,_=>rfl
 | k+1,h=>by simp only[cnt];rw[cnt_congr λ i hi=>h i (Nat.lt_succ_of_lt hi),h k (Nat.lt_succ_self k)]
theorem cnt_add(n:Nat)(a:Nat):∀k,cnt n (a+k)=cnt n a+cnt (n >>> a) k
 | 0=>rfl
 | k+1=>by rw[<- Nat.add_assoc];simp only[cnt,cnt_add n a k,Nat.testBit_shiftRight];omega
theorem testBit_mul_add{h l i:Nat}(hl:l<256):(256*h+l).testBit i=if i<8 then l.testBit i else h.testBit (i-8):=Nat.testBit_two_pow_mul_add h (i:=8) hl i
theorem cnt_byte{h l:Nat}(hl:l<256)(k:Nat):cnt (256*h+l) (8+k)=cnt l 8+cnt h k:=by
 rw[cnt_add];congr 1;·exact cnt_congr λ i hi=>by rw[testBit_mul_add hl,if_pos hi]
 ·rw[Nat.shiftRight_eq_div_pow,show 2^8=256 from rfl];congr 1;omega
theorem and_split{a b c d:Nat}(hb:b<256)(hd:d<256):(256*a+b) &&& (256*c+d)=256*(a &&& c)+(b &&& d):=by
 have hbd:b &&& d<256:=Nat.lt_of_le_of_lt Nat.and_le_left hb;refine Nat.eq_of_testBit_eq λ i=>?_;rw[Nat.testBit_and,testBit_mul_add hb,testBit_mul_add hd,testBit_mul_add hbd];split;·rw[Nat.testBit_and]
 ·rw[Nat.testBit_and]
theorem shr_split{a b s:Nat}(hb:b<256)(hs:s<=8):(256*a+b) >>> s=256*(a >>> s)+((a%2^s)*2^(8-s)+b >>> s):=by
 simp only[Nat.shiftRight_eq_div_pow];have h1:256=2^s*2^(8-s):=by rw[<- Nat.pow_add];rw[show s+(8-s)=8 by omega]
 have h2:=Nat.div_add_mod a (2^s);have hp:0<2^s:=Nat.two_pow_pos s;have h3:256*a+b=2^s*(2^(8-s)*a)+b:=by rw[h1,Nat.mul_assoc]
 rw[h3,Nat.mul_add_div hp];have h4:2^(8-s)*a=256*(a/2^s)+a%2^s*2^(8-s):=by
  conv=>lhs;rw[<- h2]
  rw[h1,Nat.mul_add,Nat.mul_comm (a%2^s),<- Nat.mul_assoc,Nat.mul_comm (2^(8-s)) (2^s)]
 omega
def swar(s:Nat)(m:Nat)(n:Nat):Nat:=((n >>> s) &&& m)+(n &&& m)
theorem low_and{a b s d:Nat}(hb:b<256)(hs:s<=8)(hd:d<2^(8-s)):((a%2^s)*2^(8-s)+b >>> s) &&& d=(b >>> s) &&& d:=by
 have hbs:b >>> s<2^(8-s):=by rw[Nat.shiftRight_eq_div_pow];refine Nat.div_lt_of_lt_mul ?_;rw[<- Nat.pow_add,show s+(8-s)=8 by omega];exact hb
 refine Nat.eq_of_testBit_eq λ i=>?_;rw[Nat.testBit_and,Nat.testBit_and,Nat.mul_comm,Nat.testBit_two_pow_mul_add _ hbs];split;·rfl
 ·rename_i h;have:d.testBit i=false:=Nat.testBit_lt_two_pow (Nat.lt_of_lt_of_le hd (Nat.pow_le_pow_right (by decide) (by omega)));rw[this];simp
theorem swar_split{s m a b d:Nat}(hb:b<256)(hs:s<=8)(hs0:0<s)(hd:d<2^(8-s)):swar s (256*m+d) (256*a+b)=256*swar s m a+swar s d b:=by
 have hd':d<256:=Nat.lt_of_lt_of_le hd (Nat.pow_le_pow_right (n:=2) (by decide) (show 8-s<=8 by omega));have hL:(a%2^s)*2^(8-s)+b >>> s<256:=by
  have h1:256=2^s*2^(8-s):=by rw[<- Nat.pow_add];rw[show s+(8-s)=8 by omega]
  have h2:a%2^s<2^s:=Nat.mod_lt _ (Nat.two_pow_pos s);have h3:b >>> s<2^(8-s):=by rw[Nat.shiftRight_eq_div_pow];refine Nat.div_lt_of_lt_mul ?_;rw[<- Nat.pow_add,show s+(8-s)=8 by omega];exact hb
  have h4:(a%2^s+1)*2^(8-s)<=2^s*2^(8-s):=Nat.mul_le_mul_right _ h2;rw[Nat.add_mul,Nat.one_mul] at h4;omega
 unfold swar;rw[shr_split hb hs,and_split hL hd',and_split hb hd',low_and hb hs hd];omega
def ones1(l:Nat):Nat:=(((swar 2 51 (swar 1 85 l)) >>> 4)+swar 2 51 (swar 1 85 l)) &&& 15
theorem byte_ok:∀l,l<256->swar 1 85 l<256/\swar 2 51 (swar 1 85 l)<256/\swar 2 51 (swar 1 85 l)%16<=4/\swar 2 51 (swar 1 85 l)/16<=4/\ones1 l=cnt l 8:=by decide +kernel
def rep(d:Nat):Nat->Nat
 | 0=>0
 | k+1=>256*rep d k+d
theorem swar_bytes:∀(k n:Nat),n<256^k ->
  ∃r,(∀q,q=(swar 2 (rep 51 k) (swar 1 (rep 85 k) n))->(((q >>> 4)+q) &&& rep 15 k)=r/\q<256^k/\q%16<=4)/\(∃ps:List Nat,ps.length=k/\(∀p∈ps,p<=8)/\r=ps.foldr (λ p acc=>p+256*acc) 0/\ps.sum=cnt n (8*k))
 | 0,n,h=>⟨0,λ q hq=>by
   have h0:n=0:=by simpa using h
   subst h0
   subst hq
   simp[swar,rep],[],rfl,by simp,rfl,by simp[cnt]⟩
 | k+1,n,h=>by
  have hl:n%256<256:=Nat.mod_lt _ (by decide)
  have hn:n=256*(n/256)+n%256:=(Nat.div_add_mod n 256).symm
  have hk:n/256<256^k:=by
   refine Nat.div_lt_of_lt_mul ?_
   rw[Nat.mul_comm,<- Nat.pow_succ];exact h
  obtain⟨r,h1,ps,h2,h3,h4,h5⟩:=swar_bytes k (n/256) hk
  obtain⟨b1,b2,b3,b4,b5⟩:=byte_ok (n%256) hl
  obtain⟨q1,q2,q3⟩:=h1 _ rfl
  generalize hQ:swar 2 (rep 51 k) (swar 1 (rep 85 k) (n/256))=Q at *
  refine⟨256*r+cnt (n%256) 8,λ q hq=>?_,cnt (n%256) 8::ps,by simp[h2],?_,?_,?_⟩
  ·have e:q=256*Q+swar 2 51 (swar 1 85 (n%256)):=by
    rw[hq]
    have e0:swar 1 (rep 85 (k+1)) n=256*swar 1 (rep 85 k) (n/256)+swar 1 85 (n%256):=by
     have:=swar_split (s:=1) (m:=rep 85 k) (a:=n/256) hl (by decide) (by decide) (show 85<2^(8-1) by decide)
     rw[<- hn] at this
     exact this
    rw[e0,<- hQ]
    exact swar_split (s:=2) (m:=rep 51 k) b1 (by decide) (by decide) (show 51<2^(8-2) by decide)
   generalize hB:swar 2 51 (swar 1 85 (n%256))=B at *
   have hones:((B >>> 4)+B) &&& 15=cnt (n%256) 8:=by rw[<- b5,ones1,hB]
   have e4:q >>> 4=256*(Q >>> 4)+((Q%16)*16+B >>> 4):=by rw[e];exact shr_split (s:=4) b2 (by decide)
   have eB:B >>> 4=B/16:=by rw[Nat.shiftRight_eq_div_pow]
   have hlow:(Q%16)*16+B >>> 4+B<256:=by rw[eB];omega
   have hsum:q >>> 4+q=256*(Q >>> 4+Q)+((Q%16)*16+B >>> 4+B):=by rw[e4,e];omega
   refine⟨?_,?_,?_⟩
   ·rw[hsum]
    show(256*(Q >>> 4+Q)+_) &&& (256*rep 15 k+15)=_
    rw[and_split hlow (by decide),q1,<- hones]
    congr 1
    rw[Nat.and_two_pow_sub_one_eq_mod _ 4,Nat.and_two_pow_sub_one_eq_mod _ 4]
    omega
   ·rw[e,Nat.pow_succ];omega
   ·rw[e];omega
  ·intro p hp
   rcases List.mem_cons.1 hp with rfl|hp
   ·exact cnt_le _ 8
   ·exact h3 p hp
  ·simp only[List.foldr_cons,<- h4];omega
  ·rw[List.sum_cons,h5]
   conv=>rhs;rw[hn]
   rw[show 8*(k+1)=8+8*k by omega,cnt_byte hl]
end
section
theorem div1{x a b:Nat}(ha:a<256)(h:x=a+256*b):x/256=b:=by omega
theorem div2{x a b:Nat}(ha:a<65536)(h:x=a+65536*b):x/65536=b:=by omega
theorem div4{x a b:Nat}(ha:a<4294967296)(h:x=a+4294967296*b):x/4294967296=b:=by omega
theorem bnd{t p s B:Nat}(e:t=p+256*s)(hp:p<=8)(hs:s<=B):t<=8+256*B:=by omega
theorem fa{r t1 t2 t3 p0 p1 p2:Nat}(e0:r=p0+256*t1)(e1:t1=p1+256*t2)(e2:t2=p2+256*t3):r+t1=((p0+p1)+256*(p1+p2))+65536*(t2+t3):=by omega
theorem ca{p0 p1 p2:Nat}(g0:p0<=8)(g1:p1<=8)(g2:p2<=8):(p0+p1)+256*(p1+p2)<65536:=by omega
theorem fb0{t2 t3 t4 t5 t6 t7 p2 p3 p4 p5 p6:Nat}(e2:t2=p2+256*t3)(e3:t3=p3+256*t4)(e4:t4=p4+256*t5)(e5:t5=p5+256*t6)(e6:t6=p6+256*t7):t2+t3+t4+t5=(p2+p3+p4+p5)+256*(p3+p4+p5+p6)+65536*(t4+t5+t6+t7):=by subst e6;omega
theorem fb{r t1 t2 t3 t4 t5 t6 t7 p0 p1 p2 p3 p4 p5 p6:Nat}(f4:r+t1=((p0+p1)+256*(p1+p2))+65536*(t2+t3))(e2:t2=p2+256*t3)(e3:t3=p3+256*t4)(e4:t4=p4+256*t5)(e5:t5=p5+256*t6)(e6:t6=p6+256*t7) :
  r+t1+(t2+t3)=((p0+p1+p2+p3)+256*(p1+p2+p3+p4)+65536*(p2+p3+p4+p5)+16777216*(p3+p4+p5+p6))+4294967296*(t4+t5+t6+t7):=by
 have h1:=fb0 e2 e3 e4 e5 e6;have h2:t2+t3=(p2+p3)+256*(t3+t4):=by clear h1 f4 e4 e5 e6;omega
 have h3:t3+t4=(p3+p4)+256*(t4+t5):=by clear h1 h2 f4 e2 e5 e6;omega
 clear e2 e3 e4 e5 e6;omega
theorem cb{p0 p1 p2 p3 p4 p5 p6:Nat}(g0:p0<=8)(g1:p1<=8)(g2:p2<=8)(g3:p3<=8)(g4:p4<=8)(g5:p5<=8)(g6:p6<=8):(p0+p1+p2+p3)+256*(p1+p2+p3+p4)+65536*(p2+p3+p4+p5)+16777216*(p3+p4+p5+p6)<4294967296:=by omega
theorem fc{r t1:Nat}(b0:r<=8+256*(8+256*(8+256*(8+256*(8+256*(8+256*(8+256*8)))))))(b1:t1<=8+256*(8+256*(8+256*(8+256*(8+256*(8+256*8)))))):r+t1<9223372036854775808:=by omega
theorem fd{r t1 t2 t3:Nat}(b0:r<=8+256*(8+256*(8+256*(8+256*(8+256*(8+256*(8+256*8)))))))(b1:t1<=8+256*(8+256*(8+256*(8+256*(8+256*(8+256*8))))))(b2:t2<=8+256*(8+256*(8+256*(8+256*(8+256*8)))))(b3:t3<=8+256*(8+256*(8+256*(8+256*8)))):r+t1+(t2+t3)<9223372036854775808:=by omega
theorem fe{p1 p2 p3 p4 p5 p6 t4 t5 t6 t7:Nat}(g1:p1<=8)(g2:p2<=8)(g3:p3<=8)(g4:p4<=8)(g5:p5<=8)(g6:p6<=8)(b4:t4<=8+256*(8+256*(8+256*8)))(b5:t5<=8+256*(8+256*8))(b6:t6<=8+256*8)(b7:t7<=8) :
  (p1+p2+p3+p4)+256*(p2+p3+p4+p5)+65536*(p3+p4+p5+p6)+16777216*(t4+t5+t6+t7)+(t5+t6+t7)<36028797018963968:=by omega
theorem ff{p0 p1 p2 p3 p4 p5 p6 p7 t4 t5 t6 t7:Nat}(e4:t4=p4+256*t5)(e5:t5=p5+256*t6)(e6:t6=p6+256*t7)(e7:t7=p7) :
  ((p0+p1+p2+p3)+256*(p1+p2+p3+p4)+65536*(p2+p3+p4+p5)+16777216*(p3+p4+p5+p6))+4294967296*(t4+t5+t6+t7)+(t4+t5+t6+t7) =
   (p0+p1+p2+p3+p4+p5+p6+p7)+256*((p1+p2+p3+p4)+256*(p2+p3+p4+p5)+65536*(p3+p4+p5+p6)+16777216*(t4+t5+t6+t7)+(t5+t6+t7)):=by
 have h:t4+t5+t6+t7=(p4+p5+p6+p7)+256*(t5+t6+t7):=by omega
 generalize t4+t5+t6+t7=s at *;clear e4 e5 e6 e7;omega
theorem swar_end{p0 p1 p2 p3 p4 p5 p6 p7 r t1 t2 t3 t4 t5 t6 t7:Nat}(g0:p0<=8)(g1:p1<=8)(g2:p2<=8)(g3:p3<=8)(g4:p4<=8)(g5:p5<=8)(g6:p6<=8)(g7:p7<=8)
  (e0:r=p0+256*t1) (e1:t1=p1+256*t2) (e2:t2=p2+256*t3) (e3:t3=p3+256*t4) (e4:t4=p4+256*t5) (e5:t5=p5+256*t6) (e6:t6=p6+256*t7) (e7:t7=p7) :
  r+r/256<9223372036854775808/\(r+r/256)+(r+r/256)/65536<9223372036854775808/\∃K,K<36028797018963968/\((r+r/256)+(r+r/256)/65536)+((r+r/256)+(r+r/256)/65536)/4294967296=(p0+p1+p2+p3+p4+p5+p6+p7)+256*K:=by
 have b7:t7<=8:=by rw[e7];exact g7
 have b6:=bnd e6 g6 b7;have b5:=bnd e5 g5 b6;have b4:=bnd e4 g4 b5;have b3:=bnd e3 g3 b4;have b2:=bnd e2 g2 b3;have b1:=bnd e1 g1 b2;have b0:=bnd e0 g0 b1;have f4:r+t1=((p0+p1)+256*(p1+p2))+65536*(t2+t3):=fa e0 e1 e2;have c4:(p0+p1)+256*(p1+p2)<65536:=ca g0 g1 g2;have f5:r+t1+(t2+t3)=((p0+p1+p2+p3)+256*(p1+p2+p3+p4)+65536*(p2+p3+p4+p5)+16777216*(p3+p4+p5+p6))+4294967296*(t4+t5+t6+t7):=fb f4 e2 e3 e4 e5 e6;have c5:=cb g0 g1 g2 g3 g4 g5 g6;rw[div1 (Nat.lt_of_le_of_lt g0 (by decide)) e0,div2 c4 f4,div4 c5 f5];refine⟨fc b0 b1,fd b0 b1 b2 b3,(p1+p2+p3+p4)+256*(p2+p3+p4+p5)+65536*(p3+p4+p5+p6)+16777216*(t4+t5+t6+t7)+(t5+t6+t7),?_,?_⟩;·exact fe g1 g2 g3 g4 g5 g6 b4 b5 b6 b7
 ·rw[f5];exact ff e4 e5 e6 e7
end
section
theorem and127{c K:Nat}(hc:c<=64)(hK:K<36028797018963968):rAnd .i64 (IntKind.i64.wrap ((c+256*K:Nat):Int)) 127=(c:Int):=by
 rw[wrap_i64 (by omega) (by omega)];unfold rAnd;have h1:(BitVec.ofInt IntKind.i64.bits ((c+256*K:Nat):Int)).toNat=c+256*K:=by show(BitVec.ofInt 64 ((c+256*K:Nat):Int)).toNat=_;rw[BitVec.toNat_ofInt];omega
 have h2:(BitVec.ofInt IntKind.i64.bits 127).toNat=127:=by decide
 rw[BitVec.toNat_and,h1,h2,show(127:Nat)=2^7-1 from rfl,Nat.and_two_pow_sub_one_eq_mod];have h3:(c+256*K)%2^7=c:=by omega
 rw[h3];exact wrap_i64 (by omega) (by omega)
theorem rOnes_cnt{n:Nat}(hn:n<18446744073709551616):rOnes (n:Int)=((cnt n 64:Nat):Int):=by
 obtain⟨r,h1,ps,h2,h3,h4,h5⟩:=swar_bytes 8 n hn;obtain⟨q1,q2,_⟩:=h1 _ rfl;match ps,h2 with
 | [p0,p1,p2,p3,p4,p5,p6,p7],_=>
  simp only[List.mem_cons,List.not_mem_nil,or_false,forall_eq_or_imp,forall_eq] at h3;simp only[List.foldr_cons,List.foldr_nil] at h4;simp only[List.sum_cons,List.sum_nil] at h5;obtain⟨g0,g1,g2,g3,g4,g5,g6,g7⟩:=h3;have b5:swar 1 6148914691236517205 n<18446744073709551616:=by unfold swar;have h1:(n >>> 1) &&& 6148914691236517205<=6148914691236517205:=Nat.and_le_right;have h2:n &&& 6148914691236517205<=6148914691236517205:=Nat.and_le_right;omega
  have e1:∀m:Nat,m<18446744073709551616->IntKind.u64.wrap (rAnd .u64 (rShr .u64 (m:Int) 1) 6148914691236517205+rAnd .u64 (m:Int) 6148914691236517205)=((swar 1 6148914691236517205 m:Nat):Int):=λ m hm=>by have hs:m >>> 1<18446744073709551616:=Nat.lt_of_le_of_lt (Nat.shiftRight_le _ _) hm;have r1:rShr .u64 (m:Int) 1=((m >>> 1:Nat):Int):=rShr_nat (i:=1) (by decide);have a1:rAnd .u64 ((m >>> 1:Nat):Int) 6148914691236517205=(((m >>> 1) &&& 6148914691236517205:Nat):Int):=rAnd_nat hs (m:=6148914691236517205) (by decide);have a2:rAnd .u64 (m:Int) 6148914691236517205=((m &&& 6148914691236517205:Nat):Int):=rAnd_nat hm (m:=6148914691236517205) (by decide);rw[r1,a1,a2,<- Int.natCast_add];refine wrap_u64n ?_;have h1:(m >>> 1) &&& 6148914691236517205<=6148914691236517205:=Nat.and_le_right;have h2:m &&& 6148914691236517205<=6148914691236517205:=Nat.and_le_right;omega
  have e2:∀m:Nat,m<18446744073709551616->IntKind.u64.wrap (rAnd .u64 (rShr .u64 (m:Int) 2) 3689348814741910323+rAnd .u64 (m:Int) 3689348814741910323)=((swar 2 3689348814741910323 m:Nat):Int):=λ m hm=>by have hs:m >>> 2<18446744073709551616:=Nat.lt_of_le_of_lt (Nat.shiftRight_le _ _) hm;have r1:rShr .u64 (m:Int) 2=((m >>> 2:Nat):Int):=rShr_nat (i:=2) (by decide);have a1:rAnd .u64 ((m >>> 2:Nat):Int) 3689348814741910323=(((m >>> 2) &&& 3689348814741910323:Nat):Int):=rAnd_nat hs (m:=3689348814741910323) (by decide);have a2:rAnd .u64 (m:Int) 3689348814741910323=((m &&& 3689348814741910323:Nat):Int):=rAnd_nat hm (m:=3689348814741910323) (by decide);rw[r1,a1,a2,<- Int.natCast_add];refine wrap_u64n ?_;have h1:(m >>> 2) &&& 3689348814741910323<=3689348814741910323:=Nat.and_le_right;have h2:m &&& 3689348814741910323<=3689348814741910323:=Nat.and_le_right;omega
  have m5:rep 85 8=6148914691236517205:=by decide
  have m3:rep 51 8=3689348814741910323:=by decide
  have mf:rep 15 8=1085102592571150095:=by decide
  rw[m5,m3] at q1 q2;rw[mf] at q1;unfold rOnes;simp only[];rw[e1 n hn,e2 _ b5];generalize swar 2 3689348814741910323 (swar 1 6148914691236517205 n)=Q at *;have hQ:Q<18446744073709551616:=q2;have hr:r<18446744073709551616:=by rw[<- q1];exact Nat.lt_of_le_of_lt Nat.and_le_right (by decide)
  have e3:rAnd .u64 (IntKind.u64.wrap (rShr .u64 (Q:Int) 4+(Q:Int))) 1085102592571150095=(r:Int):=by
   have r1:rShr .u64 (Q:Int) 4=((Q >>> 4:Nat):Int):=rShr_nat (i:=4) (by decide);rw[r1,<- Int.natCast_add];have h2:IntKind.u64.wrap ((Q >>> 4+Q:Nat):Int)=(((Q >>> 4+Q)%18446744073709551616:Nat):Int):=by
    have:IntKind.u64.wrap ((Q >>> 4+Q:Nat):Int)=((Q >>> 4+Q:Nat):Int)%18446744073709551616:=by simp[IntKind.wrap,IntKind.signed,IntKind.bits]
    rw[this];omega
   rw[h2];have a1:=rAnd_nat (n:=(Q >>> 4+Q)%18446744073709551616) (m:=1085102592571150095) (Nat.mod_lt _ (by decide)) (by decide);refine a1.trans ?_;rw[<- q1];congr 1;refine Nat.eq_of_testBit_eq λ i=>?_;rw[Nat.testBit_and,Nat.testBit_and,show(18446744073709551616:Nat)=2^64 from rfl,Nat.testBit_mod_two_pow];by_cases hi:i<64;·simp[hi]
   ·have:(1085102592571150095:Nat).testBit i=false:=Nat.testBit_lt_two_pow (Nat.lt_of_lt_of_le (by decide:(1085102592571150095:Nat)<2^64) (Nat.pow_le_pow_right (by decide) (by omega)));rw[this];simp
  rw[e3];have s1:∀m:Nat,rShr .u64 (m:Int) 8=((m/256:Nat):Int):=λ m=>by have:rShr .u64 (m:Int) 8=((m >>> 8:Nat):Int):=rShr_nat (i:=8) (by decide);rw[this,Nat.shiftRight_eq_div_pow]
  have s2:∀m:Nat,rShr .u64 (m:Int) 16=((m/65536:Nat):Int):=λ m=>by have:rShr .u64 (m:Int) 16=((m >>> 16:Nat):Int):=rShr_nat (i:=16) (by decide);rw[this,Nat.shiftRight_eq_div_pow]
  have s3:∀m:Nat,rShr .u64 (m:Int) 32=((m/4294967296:Nat):Int):=λ m=>by have:rShr .u64 (m:Int) 32=((m >>> 32:Nat):Int):=rShr_nat (i:=32) (by decide);rw[this,Nat.shiftRight_eq_div_pow]
  have w64:∀m:Nat,m<9223372036854775808->IntKind.u64.wrap ((m:Nat):Int)=(m:Int):=λ m hm=>wrap_u64n (by omega)
  have hs:cnt n 64=p0+p1+p2+p3+p4+p5+p6+p7:=by rw[show(64:Nat)=8*8 from rfl,<- h5];omega
  have hc:=cnt_le n 64;have hx:=swar_end (t7:=p7) (t6:=p6+256*p7) (t5:=p5+256*(p6+256*p7)) (t4:=p4+256*(p5+256*(p6+256*p7))) (t3:=p3+256*(p4+256*(p5+256*(p6+256*p7)))) (t2:=p2+256*(p3+256*(p4+256*(p5+256*(p6+256*p7))))) (t1:=p1+256*(p2+256*(p3+256*(p4+256*(p5+256*(p6+256*p7)))))) (r:=r) g0 g1 g2 g3 g4 g5 g6 g7 (by rw[h4];rfl) rfl rfl rfl rfl rfl rfl rfl;clear h4 q1 q2 e3 e1 e2 b5 h1 hr hQ hn m5 m3 mf h5;obtain⟨x4,x5,K,hK,x6⟩:=hx;rw[s1,<- Int.natCast_add,w64 _ x4,s2,<- Int.natCast_add,w64 _ x5,s3,<- Int.natCast_add,x6,<- hs,w64 _ (by omega)];exact and127 hc hK
end
end Go.Ct
namespace Go.Proofs.YtdnklbipddigbaaGreat
open Go.Proofs.Tryz (prog)
open Go.RowKit Go.Ct
section
theorem own_c (n : Nd) (w : World) : Calls prog 185 #[n.v] w fun e w' => e = .returned n.own.v ∧ St w [] [] w' := by
 refine enter Tryz.func185 Tryz.ntmps185 rfl rfl (SF.s0 w) ?_;simp only [mkS];refine J0 ?_; refine j_box (fun x1 => ?_); refine j_alloc (fun x2 => ?_); refine l_nil ?_; refine J24 ?_; refine j_build ?_; refine j_alloc (fun x3 => ?_); refine J5 ?_; refine J72 ?_; refine l_nil ?_; refine k_block ?_; refine J62 ?_; refine J62 ?_; refine J62 ?_; refine J62 ?_; refine J62 ?_; refine J62 ?_; refine J62 ?_; refine k_seq ?_; refine k_seq ?_; refine J39 ?_;refine kif (fun c9 => ?_) (fun c9 => ?_);·refine k_exit rfl ?_; refine k_seq ?_; refine k_dp [(0, []), (1, []), (2, []), (3, []), (4, []), (5, [3]), (6, []), (7, [])] ?_; refine J15 ?_; refine J15 ?_; refine r_fieldAddr ?_; refine J51 ?_; refine J19 ?_; refine k_exit rfl ?_; refine J25 ?_; refine J5 ?_;refine k_rt Tryz.results185 (fun w hw => ?_);exact ⟨by simp only [Nd.own, beq_iff_eq, *, if_true, if_false]; rfl, hw.done⟩
 ·refine J16 ?_; refine J39 ?_;refine kif (fun c11 => ?_) (fun c11 => ?_);·refine k_exit rfl ?_; refine k_seq ?_; refine k_dp [(0, []), (1, []), (2, []), (3, []), (4, []), (5, []), (6, []), (7, [3, 5]), (8, []), (9, [5]), (10, []), (11, [])] ?_; refine J15 ?_; refine J15 ?_; refine J15 ?_; refine r_fieldAddr ?_; refine J51 ?_; refine J51 ?_; refine J19 ?_; refine k_exit rfl ?_; refine J25 ?_; refine J5 ?_;refine k_rt Tryz.results185 (fun w hw => ?_);exact ⟨by simp only [Nd.own, beq_iff_eq, *, if_true, if_false]; rfl, hw.done⟩
  ·refine J16 ?_; refine J39 ?_;refine kif (fun c13 => ?_) (fun c13 => ?_);·refine k_exit rfl ?_; refine k_region ?_; refine J3 ?_; refine J23 ?_; refine k_blk ?_; refine k_seq ?_; refine k_dp [(0, []), (1, []), (2, []), (3, []), (4, []), (5, []), (6, []), (7, [3, 5]), (8, []), (9, [5]), (10, []), (11, [])] ?_; refine J15 ?_; refine J15 ?_; refine J15 ?_; refine r_fieldAddr ?_; refine J51 ?_; refine J51 ?_; refine J19 ?_; refine k_exit rfl ?_; refine J25 ?_; refine J5 ?_;refine k_rt Tryz.results185 (fun w hw => ?_);exact ⟨by simp only [Nd.own, beq_iff_eq, *, if_true, if_false]; rfl, hw.done⟩
   ·refine J16 ?_; refine J39 ?_;refine kif (fun c15 => ?_) (fun c15 => ?_);·refine k_exit rfl ?_; refine k_seq ?_; refine k_dp [(0, []), (1, []), (2, []), (3, []), (4, []), (5, []), (6, []), (7, [3, 5]), (8, []), (9, [5]), (10, []), (11, [])] ?_; refine J15 ?_; refine J15 ?_; refine J15 ?_; refine r_fieldAddr ?_; refine J51 ?_; refine J51 ?_; refine J19 ?_; refine k_exit rfl ?_; refine J25 ?_; refine J5 ?_;refine k_rt Tryz.results185 (fun w hw => ?_);exact ⟨by simp only [Nd.own, beq_iff_eq, *, if_true, if_false]; rfl, hw.done⟩
    ·refine J16 ?_; refine J39 ?_;refine kif (fun c17 => ?_) (fun c17 => ?_);·refine k_exit rfl ?_; refine k_seq ?_; refine k_dp [(0, []), (1, []), (2, []), (3, []), (4, []), (5, []), (6, []), (7, [3, 5]), (8, []), (9, [5]), (10, []), (11, [])] ?_; refine J15 ?_; refine J15 ?_; refine J15 ?_; refine r_fieldAddr ?_; refine J51 ?_; refine J51 ?_; refine J19 ?_; refine k_exit rfl ?_; refine J25 ?_; refine J5 ?_;refine k_rt Tryz.results185 (fun w hw => ?_);exact ⟨by simp only [Nd.own, beq_iff_eq, *, if_true, if_false]; rfl, hw.done⟩
     ·refine J16 ?_; refine J39 ?_;refine kif (fun c19 => ?_) (fun c19 => ?_);·refine k_exit rfl ?_; refine k_dp [(0, []), (1, []), (2, []), (3, []), (4, []), (5, []), (6, []), (7, [3, 5]), (8, []), (9, [5]), (10, []), (11, [])] ?_; refine J15 ?_; refine J15 ?_; refine J15 ?_; refine r_fieldAddr ?_; refine J51 ?_; refine J51 ?_; refine J19 ?_; refine k_blk ?_; refine J24 ?_; refine J23 ?_; refine k_exit rfl ?_; refine J25 ?_; refine J5 ?_;refine k_rt Tryz.results185 (fun w hw => ?_);exact ⟨by simp only [Nd.own, beq_iff_eq, *, if_true, if_false]; rfl, hw.done⟩
      ·refine k_skip ?_; refine J39 ?_;refine kif (fun c21 => ?_) (fun c21 => ?_);·refine k_exit rfl ?_; refine J24 ?_; refine J23 ?_; refine k_exit rfl ?_; refine J25 ?_; refine J5 ?_;refine k_rt Tryz.results185 (fun w hw => ?_);exact ⟨by simp only [Nd.own, beq_iff_eq, *, if_true, if_false]; rfl, hw.done⟩
       ·refine k_skip ?_; refine k_exit rfl ?_; refine J25 ?_; refine J5 ?_;refine k_rt Tryz.results185 (fun w hw => ?_);exact ⟨by simp only [Nd.own, beq_iff_eq, *, if_true, if_false]; rfl, hw.done⟩
end
section
theorem refEq_c{a b:Nd}{x1 x2:List Int}{y1 y2:List Pr}{w:World}(ha:Rep w a x1 y1)(hb:Rep w b x2 y2) :
  Calls prog 130 #[a.v,b.v] w λ e w'=>∃r:Bool,e=.returned (.bool r)/\(r=true↔NdEq a b x1 x2 y1 y2)/\St w [] [] w':=by
 have e1:=ha.brN;have e2:=hb.brN;have e3:=ha.prN;have e4:=hb.prN
 refine enter Tryz.func130 Tryz.ntmps130 rfl rfl (SF.s0 w) ?_;simp only[mkS];refine J0 ?_;refine j_box (λ x2=>?_);refine j_box (λ x3=>?_);refine J27 ?_;refine J24 ?_;refine J3 ?_;refine j_neq ?_;refine j_move ?_;(refine lcs 10 (λ g10=>?_) (λ g10=>?_)<;>refine Ka1 ?_);all_goals (refine J21 ?_;refine J38 ?_;refine j_move ?_)
 all_goals (first|refine j_un ?_|(refine lcs 17 (λ g17=>?_) (λ g17=>?_)<;>refine Ka1 ?_))
 all_goals (refine J21 ?_;refine J38 ?_;refine j_move ?_)
 all_goals (first|refine j_un ?_|(refine lcs 24 (λ g24=>?_) (λ g24=>?_)<;>refine Ka1 ?_))
 all_goals (refine J21 ?_;refine J38 ?_;refine j_move ?_)
 all_goals (first|refine j_un ?_|(refine lcs 31 (λ g31=>?_) (λ g31=>?_)<;>refine Ka1 ?_))
 all_goals (refine J21 ?_;refine J38 ?_;refine j_move ?_)
 all_goals (first|refine j_un ?_|(refine lcs 38 (λ g38=>?_) (λ g38=>?_)<;>refine Ka1 ?_))
 all_goals (refine J21 ?_;(first|refine j_un ?_|(refine j_yes ?_;refine j_sne ?_));refine Ka4 ?_)
 all_goals (first|refine j_un ?_|(refine lcs 45 (λ g45=>?_) (λ g45=>?_)<;>refine Ka1 ?_))
 all_goals (refine J21 ?_;refine J38 ?_;refine l_nil ?_)
 all_goals
 refine kif (λ c51=>?_) (λ c51=>?_)
 ·all_goals refine J10 ?_
  all_goals refine k_rv Tryz.results130 (λ w hw=>?_);exact⟨_,rfl,by simp_all[NdEq],hw.done⟩
 ·try exact nv c51
  all_goals (refine k_skip ?_;refine J24 ?_;refine J3 ?_;refine j_own (cV (hc:=λ w1 hw=>by simp only[e1,e2];exact refs_c (ha.br.keep0 hw.st) (hb.br.keep0 hw.st) ha.brS)) (λ x56=>?_);refine j_move ?_)
  all_goals ((refine lcs 57 (λ g57=>?_) (λ g57=>?_)<;>refine Ka1 ?_))
  all_goals (refine J21 ?_;(first|refine j_un ?_|(refine j_yes ?_;refine j_own (cV (hc:=λ w1 hw=>by simp only[e3,e4];exact prs_c (ha.pr.keep0 hw.st) (hb.pr.keep0 hw.st) ha.prS)) (λ x62=>?_)));refine Ka4 ?_)
  all_goals (first|refine j_un ?_|(refine lcs 64 (λ g64=>?_) (λ g64=>?_)<;>refine Ka1 ?_))
  all_goals (refine Kd7 ?_)
  all_goals (first|refine j_un ?_|(refine lcs 71 (λ g71=>?_) (λ g71=>?_)<;>refine Ka1 ?_))
  all_goals (refine Kd7 ?_)
  all_goals (first|refine j_un ?_|(refine lcs 78 (λ g78=>?_) (λ g78=>?_)<;>refine Ka1 ?_))
  all_goals (refine Kd7 ?_)
  all_goals (first|refine j_un ?_|(refine lcs 85 (λ g85=>?_) (λ g85=>?_)<;>refine Ka1 ?_))
  all_goals (refine Kd7 ?_)
  all_goals (first|refine j_un ?_|(refine lcs 92 (λ g92=>?_) (λ g92=>?_)<;>refine Ka1 ?_))
  all_goals (refine J21 ?_;refine J12 ?_;refine J1 ?_)
  all_goals refine k_rv Tryz.results130 (λ w hw=>?_);exact⟨_,rfl,by simp_all[NdEq],hw.done⟩
theorem ndEq_c{a b:Nd}{x1 x2:List Int}{y1 y2:List Pr}{w:World}(ha:Rep w a x1 y1)(hb:Rep w b x2 y2) :
  Calls prog 184 #[a.v,b.v] w λ e w'=>∃r:Bool,e=.returned (.bool r)/\(r=true↔NdEq a b x1 x2 y1 y2)/\St w [] [] w':=by
 have e1:=ha.brN;have e2:=hb.brN;have e3:=ha.prN;have e4:=hb.prN
 refine enter Tryz.func184 Tryz.ntmps184 rfl rfl (SF.s0 w) ?_;simp only[mkS];refine J0 ?_;refine j_box (λ x2=>?_);refine j_box (λ x3=>?_);refine J27 ?_;refine k_regionA (by dsimp only[List.append]) ?_;refine J3 ?_;refine J3 ?_;refine Kd4 ?_;(refine lcs 10 (λ g10=>?_) (λ g10=>?_)<;>refine Ka1 ?_);all_goals (refine Kd7 ?_)
 all_goals (first|refine j_un ?_|(refine lcs 17 (λ g17=>?_) (λ g17=>?_)<;>refine Ka1 ?_))
 all_goals (refine Kd7 ?_)
 all_goals (first|refine j_un ?_|(refine lcs 24 (λ g24=>?_) (λ g24=>?_)<;>refine Ka1 ?_))
 all_goals (refine Kd7 ?_)
 all_goals (first|refine j_un ?_|(refine lcs 31 (λ g31=>?_) (λ g31=>?_)<;>refine Ka1 ?_))
 all_goals (refine J21 ?_;(first|refine j_un ?_|(refine j_yes ?_;refine j_own (cV (hc:=λ w1 hw=>by simp only[e1,e2];exact slRef_c (ha.br.keep0 hw.st) (hb.br.keep0 hw.st) ha.brS)) (λ x36=>?_)));refine Ka4 ?_)
 all_goals (first|refine j_un ?_|(refine lcs 38 (λ g38=>?_) (λ g38=>?_)<;>refine Ka1 ?_))
 all_goals (refine Kd7 ?_)
 all_goals (first|refine j_un ?_|(refine lcs 45 (λ g45=>?_) (λ g45=>?_)<;>refine Ka1 ?_))
 all_goals (refine J21 ?_;(first|refine j_un ?_|(refine j_yes ?_;refine j_seq ?_));refine Ka4 ?_)
 all_goals (first|refine j_un ?_|(refine lcs 52 (λ g52=>?_) (λ g52=>?_)<;>refine Ka1 ?_))
 all_goals (refine Kd7 ?_)
 all_goals (first|refine j_un ?_|(refine lcs 59 (λ g59=>?_) (λ g59=>?_)<;>refine Ka1 ?_))
 all_goals (refine J21 ?_;(first|refine j_un ?_|(refine j_yes ?_;refine j_own (cV (hc:=λ w1 hw=>by simp only[e3,e4];exact slPr_c (ha.pr.keep0 hw.st) (hb.pr.keep0 hw.st) ha.prS)) (λ x64=>?_)));refine Ka4 ?_)
 all_goals (first|refine j_un ?_|(refine lcs 66 (λ g66=>?_) (λ g66=>?_)<;>refine Ka1 ?_))
 all_goals (refine Kd7 ?_)
 all_goals (first|refine j_un ?_|(refine lcs 73 (λ g73=>?_) (λ g73=>?_)<;>refine Ka1 ?_))
 all_goals (refine Kd7 ?_)
 all_goals (first|refine j_un ?_|(refine lcs 80 (λ g80=>?_) (λ g80=>?_)<;>refine Ka1 ?_))
 all_goals (refine Kd7 ?_)
 all_goals (first|refine j_un ?_|(refine lcs 87 (λ g87=>?_) (λ g87=>?_)<;>refine Ka1 ?_))
 all_goals (refine Kd7 ?_)
 all_goals (first|refine j_un ?_|(refine lcs 94 (λ g94=>?_) (λ g94=>?_)<;>refine Ka1 ?_))
 all_goals (refine J21 ?_;refine J12 ?_;refine J1 ?_)
 all_goals
 refine k_rv Tryz.results184 (λ w hw=>?_);exact⟨_,rfl,by simp_all[NdEq],hw.done⟩
theorem main_c(a:Nd)(w:World):Calls prog 66 #[a.v] w λ e w'=>∃r:Bool,e=.returned (.bool r)/\(r=true↔(a.kind=3∨a.kind=5∨a.kind=6))/\St w [] [] w':=by
 refine enter Tryz.func66 Tryz.ntmps66 rfl rfl (SF.s0 w) ?_;simp only[mkS];refine J0 ?_;refine j_box (λ x1=>?_);refine J27 ?_;refine J24 ?_;refine Kd2 ?_;refine k_seq ?_;refine J39 ?_;refine kif (λ c5=>?_) (λ c5=>?_)
 ·refine k_skip ?_;refine kif (λ c5=>?_) (λ c5=>?_);·refine J10 ?_;refine k_rv Tryz.results66 (λ w hw=>?_);exact⟨_,rfl,by simp_all,hw.done⟩
  ·refine Kb7 ?_;refine k_rv Tryz.results66 (λ w hw=>?_);exact⟨_,rfl,by simp_all,hw.done⟩
 ·refine J39 ?_;refine kif (λ c5=>?_) (λ c5=>?_)
  ·refine k_skip ?_;refine kif (λ c5=>?_) (λ c5=>?_);·refine J10 ?_;refine k_rv Tryz.results66 (λ w hw=>?_);exact⟨_,rfl,by simp_all,hw.done⟩
   ·refine Kb7 ?_;refine k_rv Tryz.results66 (λ w hw=>?_);exact⟨_,rfl,by simp_all,hw.done⟩
  ·refine k_region ?_;refine J28 ?_;refine kif (λ c5=>?_) (λ c5=>?_);·refine J10 ?_;refine k_rv Tryz.results66 (λ w hw=>?_);exact⟨_,rfl,by simp_all,hw.done⟩
   ·refine Kb7 ?_;refine k_rv Tryz.results66 (λ w hw=>?_);exact⟨_,rfl,by simp_all,hw.done⟩
theorem refMain_c(a:Nd)(w:World):Calls prog 111 #[a.v] w λ e w'=>∃r:Bool,e=.returned (.bool r)/\(r=true↔(a.kind=3∨a.kind=5∨a.kind=6))/\St w [] [] w':=by
 refine enter Tryz.func111 Tryz.ntmps111 rfl rfl (SF.s0 w) ?_;simp only[mkS];refine J0 ?_;refine j_box (λ x1=>?_);refine J1 ?_;refine J24 ?_;refine Kd4 ?_;(refine lcs 6 (λ g6=>?_) (λ g6=>?_)<;>refine Ka1 ?_);all_goals (refine J78 ?_;refine j_move ?_)
 all_goals (first|refine j_un ?_|(refine lcs 11 (λ g11=>?_) (λ g11=>?_)<;>refine Ka1 ?_))
 all_goals (refine J78 ?_;refine J1 ?_)
 all_goals
 refine k_rv Tryz.results111 (λ w hw=>?_);exact⟨_,rfl,by simp_all,hw.done⟩
end
end Go.Proofs.YtdnklbipddigbaaGreat
