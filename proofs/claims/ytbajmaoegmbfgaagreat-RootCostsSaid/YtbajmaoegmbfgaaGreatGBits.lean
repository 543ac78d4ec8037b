/- Bits of 64 bit numbers: plain laws. -/
import Derived.Test.YtbajmaoegmbfgaaGreatGMem
import Derived.Test.YtbajmaoegmbfgaaGreatAuto
import Derived.Test.YtbajmaoegmbfgaaGreatGSlices

set_option linter.unusedSimpArgs false
set_option linter.unusedVariables false
namespace Go.Ct
section
open Go Go.RowKit
theorem nN{n:Nat}(h:n<18446744073709551616):IntKind.u64.wrap ((n:Nat):Int)=(n:Int):=by
 have h2:IntKind.u64.wrap (n:Int)=(n:Int)%18446744073709551616:=by simp[IntKind.wrap,IntKind.signed,IntKind.bits]
 omega
theorem C1(n:Nat)(h:n<18446744073709551616):(BitVec.ofInt IntKind.u64.bits (n:Int)).toNat=n:=by
 show(BitVec.ofInt 64 (n:Int)).toNat=n
 rw[BitVec.toNat_ofInt]
 omega
theorem qN{n m:Nat}(hn:n<18446744073709551616)(hm:m<18446744073709551616):qG .u64 (n:Int) (m:Int)=((n &&& m:Nat):Int):=by
 unfold qG
 rw[BitVec.toNat_and,C1 n hn,C1 m hm]
 exact nN (Nat.lt_of_le_of_lt Nat.and_le_left hn)
theorem th{n m:Nat}(hn:n<18446744073709551616)(hm:m<18446744073709551616):rOr .u64 (n:Int) (m:Int)=((n ||| m:Nat):Int):=by
 unfold rOr
 rw[BitVec.toNat_or,C1 n hn,C1 m hm]
 exact nN (Nat.or_lt_two_pow (n:=64) hn hm)
theorem j3{n m:Nat}(hn:n<18446744073709551616)(hm:m<18446744073709551616):qh .u64 (n:Int) (m:Int)=((n ^^^ m:Nat):Int):=by
 unfold qh
 rw[BitVec.toNat_xor,C1 n hn,C1 m hm]
 exact nN (Nat.xor_lt_two_pow (n:=64) hn hm)
theorem qJ{n i:Nat}(hi:i<=64):qI .u64 (n:Int) (i:Int)=((n >>> i:Nat):Int):=by
 unfold qI
 rw[Int.toNat_natCast,show min i IntKind.u64.bits=i from Nat.min_eq_left hi,Nat.shiftRight_eq_div_pow]
 have:(2:Int)^i=((2^i:Nat):Int):=by simp
 rw[this,Int.fdiv_eq_ediv_of_nonneg _ (bL _)]
 rfl
theorem a6{i:Nat}(hi:i<64):bu .u64 1 (i:Int)=((2^i:Nat):Int):=by
 unfold bu
 rw[Int.toNat_natCast,show min i IntKind.u64.bits=i from Nat.min_eq_left (Nat.le_of_lt hi),Int.one_mul]
 have:(2:Int)^i=((2^i:Nat):Int):=by simp
 rw[this]
 refine nN ?_
 have:=Nat.pow_lt_pow_right (a:=2) (by decide) hi
 omega
def gU(n:Nat):Nat->Nat
 | 0=>0
 | k+1=>gU n k+if n.testBit k then 1 else 0
theorem Af(n:Nat):∀k,gU n k<=k
 | 0=>Nat.le_refl _
 | k+1=>by have:=Af n k;simp only[gU];split<;>omega
theorem Kp{n m:Nat}:∀{k:Nat},(∀i,i<k->n.testBit i=m.testBit i)->gU n k=gU m k
 | 0,_=>rfl
 | k+1,h=>by simp only[gU];rw[Kp λ i hi=>h i (Nat.lt_succ_of_lt hi),h k (Nat.lt_succ_self k)]
theorem Uz(n:Nat)(a:Nat):∀k,gU n (a+k)=gU n a+gU (n >>> a) k
 | 0=>rfl
 | k+1=>by
  rw[<- Nat.add_assoc]
  simp only[gU,Uz n a k,Nat.testBit_shiftRight]
  omega
theorem lD{h l i:Nat}(hl:l<256):(256*h+l).testBit i=if i<8 then l.testBit i else h.testBit (i-8):=Nat.testBit_two_pow_mul_add h (i:=8) hl i
theorem lh{h l:Nat}(hl:l<256)(k:Nat):gU (256*h+l) (8+k)=gU l 8+gU h k:=by
 rw[Uz]
 congr 1
 ·exact Kp λ i hi=>by rw[lD hl,if_pos hi]
 ·rw[Nat.shiftRight_eq_div_pow,show 2^8=256 from rfl]
  congr 1
  omega
theorem Ck{a b c d:Nat}(hb:b<256)(hd:d<256):(256*a+b) &&& (256*c+d)=256*(a &&& c)+(b &&& d):=by
 have hbd:b &&& d<256:=Nat.lt_of_le_of_lt Nat.and_le_left hb
 refine Nat.eq_of_testBit_eq λ i=>?_
 rw[Nat.testBit_and,lD hb,lD hd,lD hbd]
 split
 ·rw[Nat.testBit_and]
 ·rw[Nat.testBit_and]
theorem Je{a b s:Nat}(hb:b<256)(hs:s<=8):(256*a+b) >>> s=256*(a >>> s)+((a%2^s)*2^(8-s)+b >>> s):=by
 simp only[Nat.shiftRight_eq_div_pow]
 have h1:256=2^s*2^(8-s):=by rw[<- Nat.pow_add];rw[show s+(8-s)=8 by omega]
 have h2:=Nat.div_add_mod a (2^s)
 have hp:0<2^s:=Nat.two_pow_pos s
 have h3:256*a+b=2^s*(2^(8-s)*a)+b:=by rw[h1,Nat.mul_assoc]
 rw[h3,Nat.mul_add_div hp]
 have h4:2^(8-s)*a=256*(a/2^s)+a%2^s*2^(8-s):=by
  conv=>lhs;rw[<- h2]
  rw[h1,Nat.mul_add,Nat.mul_comm (a%2^s),<- Nat.mul_assoc,Nat.mul_comm (2^(8-s)) (2^s)]
 omega
def kQ(s:Nat)(m:Nat)(n:Nat):Nat:=((n >>> s) &&& m)+(n &&& m)
theorem pu{a b s d:Nat}(hb:b<256)(hs:s<=8)(hd:d<2^(8-s)):((a%2^s)*2^(8-s)+b >>> s) &&& d=(b >>> s) &&& d:=by
 have hbs:b >>> s<2^(8-s):=by
  rw[Nat.shiftRight_eq_div_pow]
  refine Nat.div_lt_of_lt_mul ?_
  rw[<- Nat.pow_add,show s+(8-s)=8 by omega]
  exact hb
 refine Nat.eq_of_testBit_eq λ i=>?_
 rw[Nat.testBit_and,Nat.testBit_and,Nat.mul_comm,Nat.testBit_two_pow_mul_add _ hbs]
 split
 ·rfl
 ·rename_i h
  have:d.testBit i=false:=Nat.testBit_lt_two_pow (Nat.lt_of_lt_of_le hd (Nat.pow_le_pow_right (by decide) (by omega)))
  rw[this];simp
theorem Hg{s m a b d:Nat}(hb:b<256)(hs:s<=8)(hs0:0<s)(hd:d<2^(8-s)):kQ s (256*m+d) (256*a+b)=256*kQ s m a+kQ s d b:=by
 have hd':d<256:=Nat.lt_of_lt_of_le hd (Nat.pow_le_pow_right (n:=2) (by decide) (show 8-s<=8 by omega))
 have hL:(a%2^s)*2^(8-s)+b >>> s<256:=by
  have h1:256=2^s*2^(8-s):=by rw[<- Nat.pow_add];rw[show s+(8-s)=8 by omega]
  have h2:a%2^s<2^s:=Nat.mod_lt _ (Nat.two_pow_pos s)
  have h3:b >>> s<2^(8-s):=by
   rw[Nat.shiftRight_eq_div_pow]
   refine Nat.div_lt_of_lt_mul ?_
   rw[<- Nat.pow_add,show s+(8-s)=8 by omega]
   exact hb
  have h4:(a%2^s+1)*2^(8-s)<=2^s*2^(8-s):=Nat.mul_le_mul_right _ h2
  rw[Nat.add_mul,Nat.one_mul] at h4
  omega
 unfold kQ
 rw[Je hb hs,Ck hL hd',Ck hb hd',pu hb hs hd]
 omega
def vh(l:Nat):Nat:=(((kQ 2 51 (kQ 1 85 l)) >>> 4)+kQ 2 51 (kQ 1 85 l)) &&& 15
theorem rm:∀l,l<256->kQ 1 85 l<256/\kQ 2 51 (kQ 1 85 l)<256/\kQ 2 51 (kQ 1 85 l)%16<=4/\kQ 2 51 (kQ 1 85 l)/16<=4/\vh l=gU l 8:=by decide +kernel
def sF(d:Nat):Nat->Nat
 | 0=>0
 | k+1=>256*sF d k+d
theorem H6:∀(k n:Nat),n<256^k ->
  ∃r,(∀q,q=(kQ 2 (sF 51 k) (kQ 1 (sF 85 k) n))->(((q >>> 4)+q) &&& sF 15 k)=r/\q<256^k/\q%16<=4)/\(∃ps:List Nat,ps.length=k/\(∀p∈ps,p<=8)/\r=ps.foldr (λ p acc=>p+256*acc) 0/\ps.sum=gU n (8*k))
 | 0,n,h=>⟨0,λ q hq=>by
   have h0:n=0:=by simpa using h
   subst h0
   subst hq
   simp[kQ,sF],[],rfl,by simp,rfl,by simp[gU]⟩
 | k+1,n,h=>by
  have hl:n%256<256:=Nat.mod_lt _ (by decide)
  have hn:n=256*(n/256)+n%256:=(Nat.div_add_mod n 256).symm
  have hk:n/256<256^k:=by
   refine Nat.div_lt_of_lt_mul ?_
   rw[Nat.mul_comm,<- Nat.pow_succ];exact h
  obtain⟨r,h1,ps,h2,h3,h4,h5⟩:=H6 k (n/256) hk
  obtain⟨b1,b2,b3,b4,b5⟩:=rm (n%256) hl
  obtain⟨q1,q2,q3⟩:=h1 _ rfl
  generalize hQ:kQ 2 (sF 51 k) (kQ 1 (sF 85 k) (n/256))=Q at *
  refine⟨256*r+gU (n%256) 8,λ q hq=>?_,gU (n%256) 8::ps,by simp[h2],?_,?_,?_⟩
  ·have e:q=256*Q+kQ 2 51 (kQ 1 85 (n%256)):=by
    rw[hq]
    have e0:kQ 1 (sF 85 (k+1)) n=256*kQ 1 (sF 85 k) (n/256)+kQ 1 85 (n%256):=by
     have:=Hg (s:=1) (m:=sF 85 k) (a:=n/256) hl (by decide) (by decide) (show 85<2^(8-1) by decide)
     rw[<- hn] at this
     exact this
    rw[e0,<- hQ]
    exact Hg (s:=2) (m:=sF 51 k) b1 (by decide) (by decide) (show 51<2^(8-2) by decide)
   generalize hB:kQ 2 51 (kQ 1 85 (n%256))=B at *
   have hones:((B >>> 4)+B) &&& 15=gU (n%256) 8:=by rw[<- b5,vh,hB]
   have e4:q >>> 4=256*(Q >>> 4)+((Q%16)*16+B >>> 4):=by rw[e];exact Je (s:=4) b2 (by decide)
   have eB:B >>> 4=B/16:=by rw[Nat.shiftRight_eq_div_pow]
   have hlow:(Q%16)*16+B >>> 4+B<256:=by rw[eB];omega
   have hsum:q >>> 4+q=256*(Q >>> 4+Q)+((Q%16)*16+B >>> 4+B):=by rw[e4,e];omega
   refine⟨?_,?_,?_⟩
   ·rw[hsum]
    show(256*(Q >>> 4+Q)+_) &&& (256*sF 15 k+15)=_
    rw[Ck hlow (by decide),q1,<- hones]
    congr 1
    rw[Nat.and_two_pow_sub_one_eq_mod _ 4,Nat.and_two_pow_sub_one_eq_mod _ 4]
    omega
   ·rw[e,Nat.pow_succ];omega
   ·rw[e];omega
  ·intro p hp
   rcases List.mem_cons.1 hp with rfl|hp
   ·exact Af _ 8
   ·exact h3 p hp
  ·simp only[List.foldr_cons,<- h4];omega
  ·rw[List.sum_cons,h5]
   conv=>rhs;rw[hn]
   rw[show 8*(k+1)=8+8*k by omega,lh hl]
end

/- The last step of OnesCount64: numbers alone. -/
section
theorem aCA{x a b:Nat}(ha:a<256)(h:x=a+256*b):x/256=b:=by omega
theorem aCE{x a b:Nat}(ha:a<65536)(h:x=a+65536*b):x/65536=b:=by omega
theorem aCh{x a b:Nat}(ha:a<4294967296)(h:x=a+4294967296*b):x/4294967296=b:=by omega
theorem bnd{t p s B:Nat}(e:t=p+256*s)(hp:p<=8)(hs:s<=B):t<=8+256*B:=by omega
theorem fa{r t1 t2 t3 p0 p1 p2:Nat}(e0:r=p0+256*t1)(e1:t1=p1+256*t2)(e2:t2=p2+256*t3):r+t1=((p0+p1)+256*(p1+p2))+65536*(t2+t3):=by omega
theorem ca{p0 p1 p2:Nat}(g0:p0<=8)(g1:p1<=8)(g2:p2<=8):(p0+p1)+256*(p1+p2)<65536:=by omega
theorem fb0{t2 t3 t4 t5 t6 t7 p2 p3 p4 p5 p6:Nat}(e2:t2=p2+256*t3)(e3:t3=p3+256*t4)(e4:t4=p4+256*t5)(e5:t5=p5+256*t6)(e6:t6=p6+256*t7):t2+t3+t4+t5=(p2+p3+p4+p5)+256*(p3+p4+p5+p6)+65536*(t4+t5+t6+t7):=by
 subst e6
 omega
theorem fb{r t1 t2 t3 t4 t5 t6 t7 p0 p1 p2 p3 p4 p5 p6:Nat}(f4:r+t1=((p0+p1)+256*(p1+p2))+65536*(t2+t3))(e2:t2=p2+256*t3)(e3:t3=p3+256*t4)(e4:t4=p4+256*t5)(e5:t5=p5+256*t6)(e6:t6=p6+256*t7) :
  r+t1+(t2+t3)=((p0+p1+p2+p3)+256*(p1+p2+p3+p4)+65536*(p2+p3+p4+p5)+16777216*(p3+p4+p5+p6))+4294967296*(t4+t5+t6+t7):=by
 have h1:=fb0 e2 e3 e4 e5 e6
 have h2:t2+t3=(p2+p3)+256*(t3+t4):=by clear h1 f4 e4 e5 e6;omega
 have h3:t3+t4=(p3+p4)+256*(t4+t5):=by clear h1 h2 f4 e2 e5 e6;omega
 clear e2 e3 e4 e5 e6
 omega
theorem cb{p0 p1 p2 p3 p4 p5 p6:Nat}(g0:p0<=8)(g1:p1<=8)(g2:p2<=8)(g3:p3<=8)(g4:p4<=8)(g5:p5<=8)(g6:p6<=8):(p0+p1+p2+p3)+256*(p1+p2+p3+p4)+65536*(p2+p3+p4+p5)+16777216*(p3+p4+p5+p6)<4294967296:=by omega
theorem fc{r t1:Nat}(b0:r<=8+256*(8+256*(8+256*(8+256*(8+256*(8+256*(8+256*8)))))))(b1:t1<=8+256*(8+256*(8+256*(8+256*(8+256*(8+256*8)))))):r+t1<9223372036854775808:=by omega
theorem fd{r t1 t2 t3:Nat}(b0:r<=8+256*(8+256*(8+256*(8+256*(8+256*(8+256*(8+256*8)))))))(b1:t1<=8+256*(8+256*(8+256*(8+256*(8+256*(8+256*8))))))(b2:t2<=8+256*(8+256*(8+256*(8+256*(8+256*8)))))(b3:t3<=8+256*(8+256*(8+256*(8+256*8)))):r+t1+(t2+t3)<9223372036854775808:=by omega
theorem fe{p1 p2 p3 p4 p5 p6 t4 t5 t6 t7:Nat}(g1:p1<=8)(g2:p2<=8)(g3:p3<=8)(g4:p4<=8)(g5:p5<=8)(g6:p6<=8)(b4:t4<=8+256*(8+256*(8+256*8)))(b5:t5<=8+256*(8+256*8))(b6:t6<=8+256*8)(b7:t7<=8) :
  (p1+p2+p3+p4)+256*(p2+p3+p4+p5)+65536*(p3+p4+p5+p6)+16777216*(t4+t5+t6+t7)+(t5+t6+t7)<36028797018963968:=by omega
theorem ff{p0 p1 p2 p3 p4 p5 p6 p7 t4 t5 t6 t7:Nat}(e4:t4=p4+256*t5)(e5:t5=p5+256*t6)(e6:t6=p6+256*t7)(e7:t7=p7) :
  ((p0+p1+p2+p3)+256*(p1+p2+p3+p4)+65536*(p2+p3+p4+p5)+16777216*(p3+p4+p5+p6))+4294967296*(t4+t5+t6+t7)+(t4+t5+t6+t7) =
   (p0+p1+p2+p3+p4+p5+p6+p7)+256*((p1+p2+p3+p4)+256*(p2+p3+p4+p5)+65536*(p3+p4+p5+p6)+16777216*(t4+t5+t6+t7)+(t5+t6+t7)):=by
 have h:t4+t5+t6+t7=(p4+p5+p6+p7)+256*(t5+t6+t7):=by omega
 generalize t4+t5+t6+t7=s at *
 clear e4 e5 e6 e7
 omega
theorem az{p0 p1 p2 p3 p4 p5 p6 p7 r t1 t2 t3 t4 t5 t6 t7:Nat}(g0:p0<=8)(g1:p1<=8)(g2:p2<=8)(g3:p3<=8)(g4:p4<=8)(g5:p5<=8)(g6:p6<=8)(g7:p7<=8)
  (e0:r=p0+256*t1) (e1:t1=p1+256*t2) (e2:t2=p2+256*t3) (e3:t3=p3+256*t4) (e4:t4=p4+256*t5) (e5:t5=p5+256*t6) (e6:t6=p6+256*t7) (e7:t7=p7) :
  r+r/256<9223372036854775808/\(r+r/256)+(r+r/256)/65536<9223372036854775808/\∃K,K<36028797018963968/\((r+r/256)+(r+r/256)/65536)+((r+r/256)+(r+r/256)/65536)/4294967296=(p0+p1+p2+p3+p4+p5+p6+p7)+256*K:=by
 have b7:t7<=8:=by rw[e7];exact g7
 have b6:=bnd e6 g6 b7
 have b5:=bnd e5 g5 b6
 have b4:=bnd e4 g4 b5
 have b3:=bnd e3 g3 b4
 have b2:=bnd e2 g2 b3
 have b1:=bnd e1 g1 b2
 have b0:=bnd e0 g0 b1
 have f4:r+t1=((p0+p1)+256*(p1+p2))+65536*(t2+t3):=fa e0 e1 e2
 have c4:(p0+p1)+256*(p1+p2)<65536:=ca g0 g1 g2
 have f5:r+t1+(t2+t3)=((p0+p1+p2+p3)+256*(p1+p2+p3+p4)+65536*(p2+p3+p4+p5)+16777216*(p3+p4+p5+p6))+4294967296*(t4+t5+t6+t7):=fb f4 e2 e3 e4 e5 e6
 have c5:=cb g0 g1 g2 g3 g4 g5 g6
 rw[aCA (Nat.lt_of_le_of_lt g0 (by decide)) e0,aCE c4 f4,aCh c5 f5]
 refine⟨fc b0 b1,fd b0 b1 b2 b3,(p1+p2+p3+p4)+256*(p2+p3+p4+p5)+65536*(p3+p4+p5+p6)+16777216*(t4+t5+t6+t7)+(t5+t6+t7),?_,?_⟩
 ·exact fe g1 g2 g3 g4 g5 g6 b4 b5 b6 b7
 ·rw[f5];exact ff e4 e5 e6 e7
end

/- Bits, the second part. -/
section
open Go Go.RowKit
theorem aAC{c K:Nat}(hc:c<=64)(hK:K<36028797018963968):qG .i64 (IntKind.i64.wrap ((c+256*K:Nat):Int)) 127=(c:Int):=by
 rw[wrap_i64 (by omega) (by omega)]
 unfold qG
 have h1:(BitVec.ofInt IntKind.i64.bits ((c+256*K:Nat):Int)).toNat=c+256*K:=by
  show(BitVec.ofInt 64 ((c+256*K:Nat):Int)).toNat=_
  rw[BitVec.toNat_ofInt]
  omega
 have h2:(BitVec.ofInt IntKind.i64.bits 127).toNat=127:=by decide
 rw[BitVec.toNat_and,h1,h2,show(127:Nat)=2^7-1 from rfl,Nat.and_two_pow_sub_one_eq_mod]
 have h3:(c+256*K)%2^7=c:=by omega
 rw[h3]
 exact wrap_i64 (by omega) (by omega)
theorem sR{n:Nat}(hn:n<18446744073709551616):zG (n:Int)=((gU n 64:Nat):Int):=by
 obtain⟨r,h1,ps,h2,h3,h4,h5⟩:=H6 8 n hn
 obtain⟨q1,q2,_⟩:=h1 _ rfl
 match ps,h2 with
 | [p0,p1,p2,p3,p4,p5,p6,p7],_ =>
  simp only[List.mem_cons,List.not_mem_nil,or_false,forall_eq_or_imp,forall_eq] at h3
  simp only[List.foldr_cons,List.foldr_nil] at h4
  simp only[List.sum_cons,List.sum_nil] at h5
  obtain⟨g0,g1,g2,g3,g4,g5,g6,g7⟩:=h3
  have b5:kQ 1 6148914691236517205 n<18446744073709551616:=by
   unfold kQ
   have h1:(n >>> 1) &&& 6148914691236517205<=6148914691236517205:=Nat.and_le_right
   have h2:n &&& 6148914691236517205<=6148914691236517205:=Nat.and_le_right
   omega
  have e1:∀m:Nat,m<18446744073709551616->IntKind.u64.wrap (qG .u64 (qI .u64 (m:Int) 1) 6148914691236517205+qG .u64 (m:Int) 6148914691236517205)=((kQ 1 6148914691236517205 m:Nat):Int):=λ m hm=>by
   have hs:m >>> 1<18446744073709551616:=Nat.lt_of_le_of_lt (Nat.shiftRight_le _ _) hm
   have r1:qI .u64 (m:Int) 1=((m >>> 1:Nat):Int):=qJ (i:=1) (by decide)
   have a1:qG .u64 ((m >>> 1:Nat):Int) 6148914691236517205=(((m >>> 1) &&& 6148914691236517205:Nat):Int):=qN hs (m:=6148914691236517205) (by decide)
   have a2:qG .u64 (m:Int) 6148914691236517205=((m &&& 6148914691236517205:Nat):Int):=qN hm (m:=6148914691236517205) (by decide)
   rw[r1,a1,a2,<- Int.natCast_add]
   refine nN ?_
   have h1:(m >>> 1) &&& 6148914691236517205<=6148914691236517205:=Nat.and_le_right
   have h2:m &&& 6148914691236517205<=6148914691236517205:=Nat.and_le_right
   omega
  have e2:∀m:Nat,m<18446744073709551616->IntKind.u64.wrap (qG .u64 (qI .u64 (m:Int) 2) 3689348814741910323+qG .u64 (m:Int) 3689348814741910323)=((kQ 2 3689348814741910323 m:Nat):Int):=λ m hm=>by
   have hs:m >>> 2<18446744073709551616:=Nat.lt_of_le_of_lt (Nat.shiftRight_le _ _) hm
   have r1:qI .u64 (m:Int) 2=((m >>> 2:Nat):Int):=qJ (i:=2) (by decide)
   have a1:qG .u64 ((m >>> 2:Nat):Int) 3689348814741910323=(((m >>> 2) &&& 3689348814741910323:Nat):Int):=qN hs (m:=3689348814741910323) (by decide)
   have a2:qG .u64 (m:Int) 3689348814741910323=((m &&& 3689348814741910323:Nat):Int):=qN hm (m:=3689348814741910323) (by decide)
   rw[r1,a1,a2,<- Int.natCast_add]
   refine nN ?_
   have h1:(m >>> 2) &&& 3689348814741910323<=3689348814741910323:=Nat.and_le_right
   have h2:m &&& 3689348814741910323<=3689348814741910323:=Nat.and_le_right
   omega
  have m5:sF 85 8=6148914691236517205:=by decide
  have m3:sF 51 8=3689348814741910323:=by decide
  have mf:sF 15 8=1085102592571150095:=by decide
  rw[m5,m3] at q1 q2
  rw[mf] at q1
  unfold zG
  simp only[]
  rw[e1 n hn,e2 _ b5]
  generalize kQ 2 3689348814741910323 (kQ 1 6148914691236517205 n)=Q at *
  have hQ:Q<18446744073709551616:=q2
  have hr:r<18446744073709551616:=by rw[<- q1];exact Nat.lt_of_le_of_lt Nat.and_le_right (by decide)
  have e3:qG .u64 (IntKind.u64.wrap (qI .u64 (Q:Int) 4+(Q:Int))) 1085102592571150095=(r:Int):=by
   have r1:qI .u64 (Q:Int) 4=((Q >>> 4:Nat):Int):=qJ (i:=4) (by decide)
   rw[r1,<- Int.natCast_add]
   have h2:IntKind.u64.wrap ((Q >>> 4+Q:Nat):Int)=(((Q >>> 4+Q)%18446744073709551616:Nat):Int):=by
    have:IntKind.u64.wrap ((Q >>> 4+Q:Nat):Int)=((Q >>> 4+Q:Nat):Int)%18446744073709551616:=by simp[IntKind.wrap,IntKind.signed,IntKind.bits]
    rw[this];omega
   rw[h2]
   have a1:=qN (n:=(Q >>> 4+Q)%18446744073709551616) (m:=1085102592571150095) (Nat.mod_lt _ (by decide)) (by decide)
   refine a1.trans ?_
   rw[<- q1]
   congr 1
   refine Nat.eq_of_testBit_eq λ i=>?_
   rw[Nat.testBit_and,Nat.testBit_and,show(18446744073709551616:Nat)=2^64 from rfl,Nat.testBit_mod_two_pow]
   by_cases hi:i<64
   ·simp[hi]
   ·have:(1085102592571150095:Nat).testBit i=false:=Nat.testBit_lt_two_pow (Nat.lt_of_lt_of_le (by decide:(1085102592571150095:Nat)<2^64) (Nat.pow_le_pow_right (by decide) (by omega)))
    rw[this];simp
  rw[e3]
  have s1:∀m:Nat,qI .u64 (m:Int) 8=((m/256:Nat):Int):=λ m=>by
   have:qI .u64 (m:Int) 8=((m >>> 8:Nat):Int):=qJ (i:=8) (by decide)
   rw[this,Nat.shiftRight_eq_div_pow]
  have s2:∀m:Nat,qI .u64 (m:Int) 16=((m/65536:Nat):Int):=λ m=>by
   have:qI .u64 (m:Int) 16=((m >>> 16:Nat):Int):=qJ (i:=16) (by decide)
   rw[this,Nat.shiftRight_eq_div_pow]
  have s3:∀m:Nat,qI .u64 (m:Int) 32=((m/4294967296:Nat):Int):=λ m=>by
   have:qI .u64 (m:Int) 32=((m >>> 32:Nat):Int):=qJ (i:=32) (by decide)
   rw[this,Nat.shiftRight_eq_div_pow]
  have w64:∀m:Nat,m<9223372036854775808->IntKind.u64.wrap ((m:Nat):Int)=(m:Int):=λ m hm=>nN (by omega)
  have hs:gU n 64=p0+p1+p2+p3+p4+p5+p6+p7:=by rw[show(64:Nat)=8*8 from rfl,<- h5];omega
  have hc:=Af n 64
  have hx:=az (t7:=p7) (t6:=p6+256*p7) (t5:=p5+256*(p6+256*p7)) (t4:=p4+256*(p5+256*(p6+256*p7))) (t3:=p3+256*(p4+256*(p5+256*(p6+256*p7)))) (t2:=p2+256*(p3+256*(p4+256*(p5+256*(p6+256*p7))))) (t1:=p1+256*(p2+256*(p3+256*(p4+256*(p5+256*(p6+256*p7)))))) (r:=r) g0 g1 g2 g3 g4 g5 g6 g7 (by rw[h4];rfl) rfl rfl rfl rfl rfl rfl rfl
  clear h4 q1 q2 e3 e1 e2 b5 h1 hr hQ hn m5 m3 mf h5
  obtain⟨x4,x5,K,hK,x6⟩:=hx
  rw[s1,<- Int.natCast_add,w64 _ x4,s2,<- Int.natCast_add,w64 _ x5,s3,<- Int.natCast_add,x6,<- hs,w64 _ (by omega)]
  exact aAC hc hK
end

/- Lists and the smallest functions of nodes. -/
end Go.Ct
namespace Go.Proofs.YtbajmaoegmbfgaaGreat
section
open Go.RowKit Go.Ct
theorem aBW (n : Nd) (w : World) : Calls Tryz.prog 197 #[n.v] w fun e w' => e = .returned n.own.v ∧ St w [] [] w' := by
  refine enter Tryz.func197 Tryz.ntmps197 rfl rfl (SF.s0 w) ?_
  simp only [cA]
  refine J0 ?_; refine bK (fun x1 => ?_); refine aJ (fun x2 => ?_); refine aG ?_; refine iB ?_; refine bI ?_; refine aJ (fun x3 => ?_); refine J5 ?_; refine B7 ?_; refine aG ?_; refine dD ?_; refine Ds ?_; refine Ds ?_; refine Ds ?_; refine Ds ?_; refine Ds ?_; refine Ds ?_; refine Ds ?_; refine aS ?_; refine aS ?_; refine lQ ?_
  refine bD (fun c9 => ?_) (fun c9 => ?_)
  · refine bR rfl ?_; refine aS ?_; refine eG [(0, []), (1, []), (2, []), (3, []), (4, []), (5, [3]), (6, []), (7, [])] ?_; refine nA ?_; refine nA ?_; refine aU ?_; refine Ta ?_; refine yR ?_; refine bR rfl ?_; refine nF ?_; refine J5 ?_
    refine aY Tryz.results197 (fun w hw => ?_)
    exact ⟨by simp only [Nd.own, beq_iff_eq, *, if_true, if_false]; rfl, hw.done⟩
  · refine kO ?_; refine lQ ?_
    refine bD (fun c11 => ?_) (fun c11 => ?_)
    · refine bR rfl ?_; refine aS ?_; refine eG [(0, []), (1, []), (2, []), (3, []), (4, []), (5, []), (6, []), (7, [3, 5]), (8, []), (9, [5]), (10, []), (11, [])] ?_; refine nA ?_; refine nA ?_; refine nA ?_; refine aU ?_; refine Ta ?_; refine Ta ?_; refine yR ?_; refine bR rfl ?_; refine nF ?_; refine J5 ?_
      refine aY Tryz.results197 (fun w hw => ?_)
      exact ⟨by simp only [Nd.own, beq_iff_eq, *, if_true, if_false]; rfl, hw.done⟩
    · refine kO ?_; refine lQ ?_
      refine bD (fun c13 => ?_) (fun c13 => ?_)
      · refine bR rfl ?_; refine dG ?_; refine J3 ?_; refine vF ?_; refine fG ?_; refine aS ?_; refine eG [(0, []), (1, []), (2, []), (3, []), (4, []), (5, []), (6, []), (7, [3, 5]), (8, []), (9, [5]), (10, []), (11, [])] ?_; refine nA ?_; refine nA ?_; refine nA ?_; refine aU ?_; refine Ta ?_; refine Ta ?_; refine yR ?_; refine bR rfl ?_; refine nF ?_; refine J5 ?_
        refine aY Tryz.results197 (fun w hw => ?_)
        exact ⟨by simp only [Nd.own, beq_iff_eq, *, if_true, if_false]; rfl, hw.done⟩
      · refine kO ?_; refine lQ ?_
        refine bD (fun c15 => ?_) (fun c15 => ?_)
        · refine bR rfl ?_; refine aS ?_; refine eG [(0, []), (1, []), (2, []), (3, []), (4, []), (5, []), (6, []), (7, [3, 5]), (8, []), (9, [5]), (10, []), (11, [])] ?_; refine nA ?_; refine nA ?_; refine nA ?_; refine aU ?_; refine Ta ?_; refine Ta ?_; refine yR ?_; refine bR rfl ?_; refine nF ?_; refine J5 ?_
          refine aY Tryz.results197 (fun w hw => ?_)
          exact ⟨by simp only [Nd.own, beq_iff_eq, *, if_true, if_false]; rfl, hw.done⟩
        · refine kO ?_; refine lQ ?_
          refine bD (fun c17 => ?_) (fun c17 => ?_)
          · refine bR rfl ?_; refine aS ?_; refine eG [(0, []), (1, []), (2, []), (3, []), (4, []), (5, []), (6, []), (7, [3, 5]), (8, []), (9, [5]), (10, []), (11, [])] ?_; refine nA ?_; refine nA ?_; refine nA ?_; refine aU ?_; refine Ta ?_; refine Ta ?_; refine yR ?_; refine bR rfl ?_; refine nF ?_; refine J5 ?_
            refine aY Tryz.results197 (fun w hw => ?_)
            exact ⟨by simp only [Nd.own, beq_iff_eq, *, if_true, if_false]; rfl, hw.done⟩
          · refine kO ?_; refine lQ ?_
            refine bD (fun c19 => ?_) (fun c19 => ?_)
            · refine bR rfl ?_; refine eG [(0, []), (1, []), (2, []), (3, []), (4, []), (5, []), (6, []), (7, [3, 5]), (8, []), (9, [5]), (10, []), (11, [])] ?_; refine nA ?_; refine nA ?_; refine nA ?_; refine aU ?_; refine Ta ?_; refine Ta ?_; refine yR ?_; refine fG ?_; refine iB ?_; refine vF ?_; refine bR rfl ?_; refine nF ?_; refine J5 ?_
              refine aY Tryz.results197 (fun w hw => ?_)
              exact ⟨by simp only [Nd.own, beq_iff_eq, *, if_true, if_false]; rfl, hw.done⟩
            · refine aW ?_; refine lQ ?_
              refine bD (fun c21 => ?_) (fun c21 => ?_)
              · refine bR rfl ?_; refine iB ?_; refine vF ?_; refine bR rfl ?_; refine nF ?_; refine J5 ?_
                refine aY Tryz.results197 (fun w hw => ?_)
                exact ⟨by simp only [Nd.own, beq_iff_eq, *, if_true, if_false]; rfl, hw.done⟩
              · refine aW ?_; refine bR rfl ?_; refine nF ?_; refine J5 ?_
                refine aY Tryz.results197 (fun w hw => ?_)
                exact ⟨by simp only [Nd.own, beq_iff_eq, *, if_true, if_false]; rfl, hw.done⟩
end

/- Nodes are compared. -/
section
open Go.RowKit Go.Ct
theorem r5{a b:Nd}{x1 x2:List Int}{y1 y2:List Pr}{w:World}(ha:sE w a x1 y1)(hb:sE w b x2 y2) :
  Calls Tryz.prog 113 #[a.v,b.v] w λ e w'=>∃r:Bool,e=.returned (.bool r)/\(r=true↔sG a b x1 x2 y1 y2)/\St w [] [] w':=by
 have e1:=ha.brN;have e2:=hb.brN;have e3:=ha.prN;have e4:=hb.prN
 refine enter Tryz.func113 Tryz.ntmps113 rfl rfl (SF.s0 w) ?_
 simp only[cA]
 refine J0 ?_;refine bK (λ x2=>?_);refine bK (λ x3=>?_);refine iZ ?_;refine iB ?_;refine J3 ?_;refine kF ?_;refine aA ?_
 (refine dZ 10 (λ g10=>?_) (λ g10=>?_)<;>refine Ka1 ?_)
 all_goals (refine Ci ?_;refine Rx ?_;refine aA ?_)
 all_goals (first|refine aI ?_|(refine dZ 17 (λ g17=>?_) (λ g17=>?_)<;>refine Ka1 ?_))
 all_goals (refine Ci ?_;refine Rx ?_;refine aA ?_)
 all_goals (first|refine aI ?_|(refine dZ 24 (λ g24=>?_) (λ g24=>?_)<;>refine Ka1 ?_))
 all_goals (refine Ci ?_;refine Rx ?_;refine aA ?_)
 all_goals (first|refine aI ?_|(refine dZ 31 (λ g31=>?_) (λ g31=>?_)<;>refine Ka1 ?_))
 all_goals (refine Ci ?_;refine Rx ?_;refine aA ?_)
 all_goals (first|refine aI ?_|(refine dZ 38 (λ g38=>?_) (λ g38=>?_)<;>refine Ka1 ?_))
 all_goals (refine Ci ?_;(first|refine aI ?_|(refine aE ?_;refine vu ?_));refine Ka6 ?_)
 all_goals (first|refine aI ?_|(refine dZ 45 (λ g45=>?_) (λ g45=>?_)<;>refine Ka1 ?_))
 all_goals (refine Ci ?_;refine Rx ?_;refine aG ?_)
 all_goals
 refine bD (λ c51=>?_) (λ c51=>?_)
 ·all_goals refine cS ?_
  all_goals
   refine aQ Tryz.results113 (λ w hw=>?_)
   exact⟨_,rfl,by simp_all[sG],hw.done⟩
 ·try exact nv c51
  all_goals (refine aW ?_;refine iB ?_;refine J3 ?_;refine aN (cV (hc:=λ w1 hw=>by simp only[e1,e2];exact aAw (ha.br.gF hw.st) (hb.br.gF hw.st) ha.brS)) (λ x56=>?_);refine aA ?_)
  all_goals ((refine dZ 57 (λ g57=>?_) (λ g57=>?_)<;>refine Ka1 ?_))
  all_goals (refine Ci ?_;(first|refine aI ?_|(refine aE ?_;refine aN (cV (hc:=λ w1 hw=>by simp only[e3,e4];exact aA4 (ha.pr.gF hw.st) (hb.pr.gF hw.st) ha.prS)) (λ x62=>?_)));refine Ka6 ?_)
  all_goals (first|refine aI ?_|(refine dZ 64 (λ g64=>?_) (λ g64=>?_)<;>refine Ka1 ?_))
  all_goals (refine Kc7 ?_)
  all_goals (first|refine aI ?_|(refine dZ 71 (λ g71=>?_) (λ g71=>?_)<;>refine Ka1 ?_))
  all_goals (refine Kc7 ?_)
  all_goals (first|refine aI ?_|(refine dZ 78 (λ g78=>?_) (λ g78=>?_)<;>refine Ka1 ?_))
  all_goals (refine Kc7 ?_)
  all_goals (first|refine aI ?_|(refine dZ 85 (λ g85=>?_) (λ g85=>?_)<;>refine Ka1 ?_))
  all_goals (refine Kc7 ?_)
  all_goals (first|refine aI ?_|(refine dZ 92 (λ g92=>?_) (λ g92=>?_)<;>refine Ka1 ?_))
  all_goals (refine Ci ?_;refine xT ?_;refine J1 ?_)
  all_goals
   refine aQ Tryz.results113 (λ w hw=>?_)
   exact⟨_,rfl,by simp_all[sG],hw.done⟩
theorem aAz{a b:Nd}{x1 x2:List Int}{y1 y2:List Pr}{w:World}(ha:sE w a x1 y1)(hb:sE w b x2 y2) :
  Calls Tryz.prog 196 #[a.v,b.v] w λ e w'=>∃r:Bool,e=.returned (.bool r)/\(r=true↔sG a b x1 x2 y1 y2)/\St w [] [] w':=by
 have e1:=ha.brN;have e2:=hb.brN;have e3:=ha.prN;have e4:=hb.prN
 refine enter Tryz.func196 Tryz.ntmps196 rfl rfl (SF.s0 w) ?_
 simp only[cA]
 refine J0 ?_;refine bK (λ x2=>?_);refine bK (λ x3=>?_);refine iZ ?_;refine Xt (by dsimp only[List.append]) ?_;refine J3 ?_;refine J3 ?_;refine kW ?_;refine aA ?_
 (refine dZ 10 (λ g10=>?_) (λ g10=>?_)<;>refine Ka1 ?_)
 all_goals (refine Kc7 ?_)
 all_goals (first|refine aI ?_|(refine dZ 17 (λ g17=>?_) (λ g17=>?_)<;>refine Ka1 ?_))
 all_goals (refine Kc7 ?_)
 all_goals (first|refine aI ?_|(refine dZ 24 (λ g24=>?_) (λ g24=>?_)<;>refine Ka1 ?_))
 all_goals (refine Kc7 ?_)
 all_goals (first|refine aI ?_|(refine dZ 31 (λ g31=>?_) (λ g31=>?_)<;>refine Ka1 ?_))
 all_goals (refine Ci ?_;(first|refine aI ?_|(refine aE ?_;refine aN (cV (hc:=λ w1 hw=>by simp only[e1,e2];exact ta (ha.br.gF hw.st) (hb.br.gF hw.st) ha.brS)) (λ x36=>?_)));refine Ka6 ?_)
 all_goals (first|refine aI ?_|(refine dZ 38 (λ g38=>?_) (λ g38=>?_)<;>refine Ka1 ?_))
 all_goals (refine Kc7 ?_)
 all_goals (first|refine aI ?_|(refine dZ 45 (λ g45=>?_) (λ g45=>?_)<;>refine Ka1 ?_))
 all_goals (refine Ci ?_;(first|refine aI ?_|(refine aE ?_;refine we ?_));refine Ka6 ?_)
 all_goals (first|refine aI ?_|(refine dZ 52 (λ g52=>?_) (λ g52=>?_)<;>refine Ka1 ?_))
 all_goals (refine Kc7 ?_)
 all_goals (first|refine aI ?_|(refine dZ 59 (λ g59=>?_) (λ g59=>?_)<;>refine Ka1 ?_))
 all_goals (refine Ci ?_;(first|refine aI ?_|(refine aE ?_;refine aN (cV (hc:=λ w1 hw=>by simp only[e3,e4];exact xn (ha.pr.gF hw.st) (hb.pr.gF hw.st) ha.prS)) (λ x64=>?_)));refine Ka6 ?_)
 all_goals (first|refine aI ?_|(refine dZ 66 (λ g66=>?_) (λ g66=>?_)<;>refine Ka1 ?_))
 all_goals (refine Kc7 ?_)
 all_goals (first|refine aI ?_|(refine dZ 73 (λ g73=>?_) (λ g73=>?_)<;>refine Ka1 ?_))
 all_goals (refine Kc7 ?_)
 all_goals (first|refine aI ?_|(refine dZ 80 (λ g80=>?_) (λ g80=>?_)<;>refine Ka1 ?_))
 all_goals (refine Kc7 ?_)
 all_goals (first|refine aI ?_|(refine dZ 87 (λ g87=>?_) (λ g87=>?_)<;>refine Ka1 ?_))
 all_goals (refine Kc7 ?_)
 all_goals (first|refine aI ?_|(refine dZ 94 (λ g94=>?_) (λ g94=>?_)<;>refine Ka1 ?_))
 all_goals (refine Ci ?_;refine xT ?_;refine J1 ?_)
 all_goals
 refine aQ Tryz.results196 (λ w hw=>?_)
 exact⟨_,rfl,by simp_all[sG],hw.done⟩
theorem Sq(a:Nd)(w:World):Calls Tryz.prog 80 #[a.v] w λ e w'=>∃r:Bool,e=.returned (.bool r)/\(r=true↔(a.kind=3∨a.kind=5∨a.kind=6))/\St w [] [] w':=by
 refine enter Tryz.func80 Tryz.ntmps80 rfl rfl (SF.s0 w) ?_
 simp only[cA]
 refine J0 ?_;refine bK (λ x1=>?_);refine iZ ?_;refine iB ?_;refine aG ?_;refine dD ?_;refine aS ?_;refine lQ ?_
 refine bD (λ c5=>?_) (λ c5=>?_)
 ·refine aW ?_
  refine bD (λ c5=>?_) (λ c5=>?_)
  ·refine cS ?_
   refine aQ Tryz.results80 (λ w hw=>?_)
   exact⟨_,rfl,by simp_all,hw.done⟩
  ·refine Kb0 ?_
   refine aQ Tryz.results80 (λ w hw=>?_)
   exact⟨_,rfl,by simp_all,hw.done⟩
 ·refine lQ ?_
  refine bD (λ c5=>?_) (λ c5=>?_)
  ·refine aW ?_
   refine bD (λ c5=>?_) (λ c5=>?_)
   ·refine cS ?_
    refine aQ Tryz.results80 (λ w hw=>?_)
    exact⟨_,rfl,by simp_all,hw.done⟩
   ·refine Kb0 ?_
    refine aQ Tryz.results80 (λ w hw=>?_)
    exact⟨_,rfl,by simp_all,hw.done⟩
  ·refine dG ?_;refine Rq ?_
   refine bD (λ c5=>?_) (λ c5=>?_)
   ·refine cS ?_
    refine aQ Tryz.results80 (λ w hw=>?_)
    exact⟨_,rfl,by simp_all,hw.done⟩
   ·refine Kb0 ?_
    refine aQ Tryz.results80 (λ w hw=>?_)
    exact⟨_,rfl,by simp_all,hw.done⟩
theorem yH(a:Nd)(w:World):Calls Tryz.prog 41 #[a.v] w λ e w'=>∃r:Bool,e=.returned (.bool r)/\(r=true↔(a.kind=3∨a.kind=5∨a.kind=6))/\St w [] [] w':=by
 refine enter Tryz.func41 Tryz.ntmps41 rfl rfl (SF.s0 w) ?_
 simp only[cA]
 refine J0 ?_;refine bK (λ x1=>?_);refine J1 ?_;refine iB ?_;refine kW ?_;refine aA ?_
 (refine dZ 6 (λ g6=>?_) (λ g6=>?_)<;>refine Ka1 ?_)
 all_goals (refine yr ?_;refine aA ?_)
 all_goals (first|refine aI ?_|(refine dZ 11 (λ g11=>?_) (λ g11=>?_)<;>refine Ka1 ?_))
 all_goals (refine yr ?_;refine J1 ?_)
 all_goals
 refine aQ Tryz.results41 (λ w hw=>?_)
 exact⟨_,rfl,by simp_all,hw.done⟩
end

/- node.Valid. -/
section
open Go.RowKit Go.Ct
theorem xf(b:Int)(w:World):Calls Tryz.prog 238 #[.int .u64 b] w λ e w'=>e=.returned (.int .i64 (zG b))/\St w [] [] w':=by
 refine enter Tryz.func238 Tryz.ntmps238 rfl rfl (SF.s0 w) ?_
 simp only[cA]
 refine cS ?_;refine J2 ?_;refine Gu ?_;refine F8 ?_;refine aA ?_;refine F8 ?_;refine Gn ?_;refine Ka4 ?_;refine Gu ?_;refine F8 ?_;refine aA ?_;refine F8 ?_;refine Gn ?_;refine Ka4 ?_;refine Gu ?_;refine aA ?_;refine Gn ?_;refine F8 ?_;refine Ai ?_;refine Gu ?_;refine Gn ?_;refine Ai ?_;refine Gu ?_;refine Gn ?_;refine Ai ?_;refine Gu ?_;refine Gn ?_;refine Ka4 ?_;refine nM ?_;refine F8 ?_;refine J1 ?_
 refine aQ Tryz.results238 (λ w hw=>?_)
 exact⟨rfl,hw.done⟩
theorem p8(b:Int)(w:World):Calls Tryz.prog 198 #[.int .u64 b] w λ e w'=>e=.returned (.int .i64 (zG b))/\St w [] [] w':=by
 refine enter Tryz.func198 Tryz.ntmps198 rfl rfl (SF.s0 w) ?_
 simp only[cA]
 refine cS ?_;refine J2 ?_;refine aN (cV (hc:=λ w1 hw=>xf b w1)) (λ x4=>?_);refine J1 ?_
 refine aQ Tryz.results198 (λ w hw=>?_)
 exact⟨rfl,hw.done⟩
theorem Xk{n:Nd}{xs:List Int}{ys:List Pr}{w:World}(hr:sE w n xs ys) :
  Calls Tryz.prog 158 #[n.v] w λ e w'=>∃r:Bool,e=.returned (.bool r)/\(r=true↔cE n xs ys)/\St w [] [] w':=by
 have e1:=hr.brN;have e2:=hr.prN
 refine enter Tryz.func158 Tryz.ntmps158 rfl rfl (SF.s0 w) ?_
 simp only[cA]
 refine J0 ?_;refine bK (λ x1=>?_);refine iZ ?_;refine aS ?_;refine eG [(0,[]),(1,[]),(2,[0]),(3,[]),(4,[])] ?_;refine bO ?_;refine bO ?_;refine cO (i:=2) (hq:=(cV (hc:=λ w1 hw=>aBW n w1))) (h:=λ x5=>?_);refine bC (i:=3) (hq:=(c0 (V:=.bool) (hc:=λ w1 hw=>aAz (hr.gF hw.st) (hr.gF hw.st).own))) (h:=λ x6 h6=>?_);refine j4 ?_;refine eU ?_
 refine bD (λ c7=>?_) (λ c7=>?_)
 ·refine cS ?_
  refine aQ Tryz.results158 (λ w hw=>?_)
  refine⟨_,rfl,?_,hw.done⟩
  (simp_all[cE];done)
 ·refine kO ?_;refine iB ?_;refine Bu ?_
  (refine dZ 11 (λ g11=>?_) (λ g11=>?_)<;>refine Ka1 ?_)
  all_goals (refine zr ?_;refine aA ?_)
  all_goals (first|refine aI ?_|(refine dZ 16 (λ g16=>?_) (λ g16=>?_)<;>refine Ka1 ?_))
  all_goals (refine zr ?_;refine aG ?_)
  all_goals
  refine bD (λ c20=>?_) (λ c20=>?_)
  ·all_goals refine cS ?_
   all_goals
    refine aQ Tryz.results158 (λ w hw=>?_)
    refine⟨_,rfl,?_,hw.done⟩
    (simp_all[cE];omega)
  ·try exact nv c20
   all_goals (refine kO ?_;refine iB ?_;refine aG ?_;refine dD ?_;refine Ds ?_;refine Ds ?_;refine Ds ?_;refine Ds ?_;refine dD ?_;refine Ds ?_;refine Ds ?_;refine Ds ?_;refine aS ?_;refine aS ?_;refine lQ ?_)
   all_goals
    refine bD (λ c23=>?_) (λ c23=>?_)
    ·refine bR rfl ?_;refine aS ?_;refine cS ?_
     refine aQ Tryz.results158 (λ w hw=>?_)
     refine⟨_,rfl,?_,hw.done⟩
     (simp_all[cE];done)
    ·refine kO ?_;refine lQ ?_
     refine bD (λ c25=>?_) (λ c25=>?_)
     ·refine bR rfl ?_;refine B7 ?_;refine oG ?_;refine J1 ?_
      refine aQ Tryz.results158 (λ w hw=>?_)
      refine⟨_,rfl,?_,hw.done⟩
      (simp_all[cE];done)
     ·refine kO ?_;refine lQ ?_
      refine bD (λ c27=>?_) (λ c27=>?_)
      ·refine bR rfl ?_;refine aS ?_;refine aS ?_;refine eG [(0,[]),(1,[]),(2,[]),(3,[]),(4,[]),(5,[1]),(6,[]),(7,[]),(8,[]),(9,[]),(10,[]),(11,[]),(12,[])] ?_;refine nA ?_;refine oE ?_;refine nA ?_;refine cO (i:=5) (hq:=(cV (hc:=λ w1 hw=>p8 n.bm w1))) (h:=λ x47=>?_);refine nJ ?_;refine aT ?_
       (refine ra 49 (λ g49=>?_) (λ g49=>?_)<;>(first|refine gA ?_|(refine aU ?_)))
       all_goals ((first|refine gA ?_|(refine bO ?_));(first|refine gA ?_|(refine bC (i:=10) (hq:=(c0 (V:=.bool) (hc:=λ w1 hw=>by rw[e1];exact Su (hr.br.gF hw.st) hr.brS))) (h:=λ x52 h52=>?_)));refine mM ?_;refine J7 ?_)
       all_goals
       refine aQ Tryz.results158 (λ w hw=>?_)
       refine⟨_,rfl,?_,hw.done⟩
       (simp_all[cE];done)
      ·refine kO ?_;refine lQ ?_
       refine bD (λ c29=>?_) (λ c29=>?_)
       ·refine Zq ?_;refine B7 ?_;refine mS ?_;refine zJ ?_;refine J1 ?_
        refine aQ Tryz.results158 (λ w hw=>?_)
        refine⟨_,rfl,?_,hw.done⟩
        (simp_all[cE];omega)
       ·refine kO ?_;refine lQ ?_
        refine bD (λ c31=>?_) (λ c31=>?_)
        ·refine bR rfl ?_;refine B7 ?_;refine mS ?_;refine zJ ?_;refine J1 ?_
         refine aQ Tryz.results158 (λ w hw=>?_)
         refine⟨_,rfl,?_,hw.done⟩
         (simp_all[cE];omega)
        ·refine kO ?_;refine lQ ?_
         refine bD (λ c33=>?_) (λ c33=>?_)
         ·refine bR rfl ?_;refine B7 ?_;refine eA ?_;refine oG ?_;refine aA ?_
          (refine dZ 62 (λ g62=>?_) (λ g62=>?_)<;>refine Ka1 ?_)
          all_goals (refine Ka2 ?_;(first|refine aI ?_|(refine aE ?_;refine aD (c0 (V:=.bool) (hc:=λ w1 hw=>by rw[e2];exact Y6 (hr.pr.gF hw.st) hr.prS)) (λ x65 h65=>?_)));refine Ka6 ?_)
          all_goals (first|refine aI ?_|(refine dZ 67 (λ g67=>?_) (λ g67=>?_)<;>refine Ka1 ?_))
          all_goals (refine Ka2 ?_;(first|refine aI ?_|(refine aE ?_;refine aD (c0 (V:=.bool) (hc:=λ w1 hw=>by rw[e2];exact P0 (hr.pr.gF hw.st) hr.prS)) (λ x70 h70=>?_)));refine Kb9 ?_)
          all_goals
          refine aQ Tryz.results158 (λ w hw=>?_)
          refine⟨_,rfl,?_,hw.done⟩
          first|(simp_all[cE];done)|(simp_all[cE];omega)
         ·refine kO ?_;refine lQ ?_
          refine bD (λ c35=>?_) (λ c35=>?_)
          ·refine bR rfl ?_;refine iB ?_;refine Bu ?_
           (refine dZ 75 (λ g75=>?_) (λ g75=>?_)<;>refine Ka1 ?_)
           all_goals (refine zr ?_;refine aG ?_)
           all_goals
           refine bD (λ c79=>?_) (λ c79=>?_)
           ·all_goals refine cS ?_
            all_goals
             refine aQ Tryz.results158 (λ w hw=>?_)
             refine⟨_,rfl,?_,hw.done⟩
             (simp_all[cE];omega)
           ·try exact nv c79
            all_goals (refine pG ?_;refine B7 ?_;refine oG ?_;refine J1 ?_)
            all_goals
             refine aQ Tryz.results158 (λ w hw=>?_)
             refine⟨_,rfl,?_,hw.done⟩
             (simp_all[cE];done)
          ·refine aW ?_;refine lQ ?_
           refine bD (λ c37=>?_) (λ c37=>?_)
           ·refine bR rfl ?_;refine B7 ?_;refine oG ?_;refine J1 ?_
            refine aQ Tryz.results158 (λ w hw=>?_)
            refine⟨_,rfl,?_,hw.done⟩
            (simp_all[cE];done)
           ·refine aW ?_;refine bR rfl ?_;refine cS ?_
            refine aQ Tryz.results158 (λ w hw=>?_)
            refine⟨_,rfl,?_,hw.done⟩
            (simp_all[cE];done)
end

/- The functions on bitmaps. -/
end Go.Proofs.YtbajmaoegmbfgaaGreat
namespace Go.Ct
section
open Go Go.RowKit
def pZ(n:Nat)(i:Int):Bool:=decide (0<=i)&&(decide (i<64)&&n.testBit i.toNat)
theorem oz(n:Nat){i:Int}(h:i<0):pZ n i=false:=by simp[pZ];omega
theorem W1(n:Nat){i:Int}(h:64<=i):pZ n i=false:=by simp[pZ];omega
theorem tL(n:Nat){i:Int}(h0:0<=i)(h1:i<64):pZ n i=n.testBit i.toNat:=by simp[pZ,h0,h1]
theorem sg{n:Nat}(hn:n<18446744073709551616){i:Int}(h0:0<=i)(h1:i<64):(qG .u64 (qI .u64 (n:Int) i) 1==1)=pZ n i:=by
 obtain⟨k,rfl⟩:=Int.eq_ofNat_of_zero_le h0
 rw[tL n h0 h1,qJ (by omega)]
 have h2:qG .u64 ((n >>> k:Nat):Int) 1=(((n >>> k) &&& 1:Nat):Int):=qN (Nat.lt_of_le_of_lt (Nat.shiftRight_le _ _) hn) (m:=1) (by decide)
 rw[h2]
 simp only[Int.toNat_natCast,Nat.testBit,Nat.and_comm 1]
 rw[Nat.and_one_is_mod]
 rcases Nat.mod_two_eq_zero_or_one (n >>> k) with h|h<;>rw[h]<;>rfl
def rE(n:Nat)(i:Int):Nat:=gU n (min i.toNat 64)
def dO(n:Nat)(i:Int):Nat:=if 0<=i/\i<64 then n ||| 2^i.toNat else n
def wD(n:Nat)(i:Int):Nat:=if 0<=i/\i<64 then n ^^^ (n &&& 2^i.toNat) else n
theorem ib{n:Nat}(hn:n<18446744073709551616){i:Int}(h0:0<=i)(h1:i<64):rOr .u64 (n:Int) (bu .u64 1 i)=((dO n i:Nat):Int):=by
 obtain⟨k,rfl⟩:=Int.eq_ofNat_of_zero_le h0
 have hp:=Nat.pow_lt_pow_right (a:=2) (by decide) (show k<64 by omega)
 rw[a6 (by omega),th hn (by omega),dO,if_pos ⟨h0,h1⟩]
 rfl
theorem Bo{n:Nat}(hn:n<18446744073709551616)(i:Int):dO n i<18446744073709551616:=by
 unfold dO
 split
 ·rename_i h
  have hp:=Nat.pow_lt_pow_right (a:=2) (by decide) (show i.toNat<64 by omega)
  exact Nat.or_lt_two_pow (n:=64) hn hp
 ·exact hn
end
end Go.Ct
namespace Go.Proofs.YtbajmaoegmbfgaaGreat
section
open Go.RowKit Go.Ct
theorem Hr{n:Nat}(hn:n<18446744073709551616)(i:Int)(w:World):Calls Tryz.prog 195 #[.int .u64 (n:Int),.int .i64 i] w λ e w'=>e=.returned (.bool (pZ n i))/\St w [] [] w':=by
 refine enter Tryz.func195 Tryz.ntmps195 rfl rfl (SF.s0 w) ?_
 simp only[cA]
 refine cS ?_;refine J2 ?_;refine oG ?_;refine aA ?_
 (refine dZ 7 (λ g7=>?_) (λ g7=>?_)<;>refine Ka0 ?_)
 all_goals (refine vg ?_;refine aA ?_)
 all_goals (first|refine aI ?_|(refine dZ 11 (λ g11=>?_) (λ g11=>?_)<;>refine Ka0 ?_))
 all_goals (refine Ka0 ?_;(first|refine aI ?_|(refine aE ?_;refine nM ?_));(first|refine aI ?_|(refine aE ?_;refine Gu ?_));(first|refine aI ?_|(refine aE ?_;refine F8 ?_));refine xT ?_;refine J1 ?_)
 all_goals
 refine aQ Tryz.results195 (λ w hw=>?_)
 first|(rw[oz n (by omega)];exact⟨rfl,hw.done⟩)|(rw[W1 n (by omega)];exact⟨rfl,hw.done⟩)|(rw[<- sg hn (by omega) (by omega)];exact⟨rfl,hw.done⟩)
theorem Ql{n:Nat}(hn:n<18446744073709551616)(i:Int)(w:World):Calls Tryz.prog 207 #[.int .u64 (n:Int),.int .i64 i] w λ e w'=>e=.returned (.int .i64 ((rE n i:Nat):Int))/\St w [] [] w':=by
 refine enter Tryz.func207 Tryz.ntmps207 rfl rfl (SF.s0 w) ?_
 simp only[cA]
 refine cS ?_;refine Gi ?_;refine Ea ?_
 refine iL [5,6,7,8,9,10,11,12,13,14,15,16,17,18,19,20] (λ k=>[(5,.int .i64 ((gU n k:Nat):Int)),(6,.int .i64 ((k:Nat):Int))]) (λ k=>k<=64/\(k:Int)<=max i 0) (λ k=>64-k) (0) (⟨by decide,by omega⟩) ?_ (λ k f hx=>?_)
 ·repeat (first|exact bJ _|refine bF (by exact rfl) ?_)
 dsimp only[hX,List.map,List.cons_append,List.nil_append]
 have hcl:=Af n k
 refine kR ?_;refine Bu ?_
 (refine dZ 9 (λ g9=>?_) (λ g9=>?_)<;>refine Ka0 ?_)
 all_goals (refine Ka0 ?_;refine vg ?_;refine aG ?_)
 all_goals
 refine bD (λ c13=>?_) (λ c13=>?_)
 ·try exact nv c13
  all_goals (refine rR ?_;refine jJ ?_;refine aN (cV (hc:=λ w1 hw=>Hr hn (k:Int) w1)) (λ x18=>?_);refine aG ?_)
  all_goals
   refine bD (λ c18=>?_) (λ c18=>?_)
   ·refine vL ?_;refine Kb2 ?_
    refine fL (k+1) ?_ ?_ ?_
    ·omega
    ·repeat' (first|exact bJ _|refine bF ?_ ?_)
     all_goals (first|exact rfl|(rw[tL n (by omega) (by omega),Int.toNat_natCast] at *;conv=>{lhs;whnf};congr 2;simp only[gU];simp_all;done))
    ·omega
   ·refine Kc2 ?_
    refine fL (k+1) ?_ ?_ ?_
    ·omega
    ·repeat' (first|exact bJ _|refine bF ?_ ?_)
     all_goals (first|exact rfl|(rw[tL n (by omega) (by omega),Int.toNat_natCast] at *;conv=>{lhs;whnf};congr 2;simp only[gU];simp_all;done))
    ·omega
 ·all_goals (refine bR rfl ?_;refine Ka5 ?_)
  all_goals
   refine aQ Tryz.results207 (λ w hw=>?_)
   have:rE n i=gU n k:=by unfold rE;congr 1;omega
   rw[this]
   exact⟨rfl,hw.done⟩
theorem Sg{n:Nat}(hn:n<18446744073709551616)(w:World):Calls Tryz.prog 170 #[.int .u64 (n:Int)] w λ e w'=>e=.returned (.int .i64 ((gU n 64:Nat):Int))/\St w [] [] w':=by
 refine enter Tryz.func170 Tryz.ntmps170 rfl rfl (SF.s0 w) ?_
 simp only[cA]
 refine cS ?_;refine J2 ?_;refine aN (cV (hc:=λ w1 hw=>Ql hn 64 w1)) (λ x4=>?_);refine J1 ?_
 refine aQ Tryz.results170 (λ w hw=>?_)
 exact⟨rfl,hw.done⟩
theorem nK{n:Nat}(hn:n<18446744073709551616)(i:Int)(w:World):Calls Tryz.prog 254 #[.int .u64 (n:Int),.int .i64 i] w λ e w'=>e=.returned (.int .u64 ((dO n i:Nat):Int))/\St w [] [] w':=by
 refine enter Tryz.func254 Tryz.ntmps254 rfl rfl (SF.s0 w) ?_
 simp only[cA]
 refine Kb3 ?_;refine Bu ?_
 (refine dZ 7 (λ g7=>?_) (λ g7=>?_)<;>refine Ka0 ?_)
 all_goals (refine Ka8 ?_)
 all_goals
 refine bD (λ c10=>?_) (λ c10=>?_)
 ·all_goals (refine Ka5 ?_)
  all_goals
   refine aQ Tryz.results254 (λ w hw=>?_)
   (rw[show dO n i=n by unfold dO;rw[if_neg (by omega)]];exact⟨rfl,hw.done⟩)
 ·try exact nv c10
  all_goals (refine El ?_;refine nM ?_;refine aBN ?_;refine aCs ?_;refine J1 ?_)
  all_goals
   refine aQ Tryz.results254 (λ w hw=>?_)
   (rw[<- ib hn (by omega) (by omega)];exact⟨rfl,hw.done⟩)
end

end Go.Proofs.YtbajmaoegmbfgaaGreat
