/- Bits of 64 bit numbers: plain laws. -/
import Derived.Test.YtadnboagdhcedaaGreatDoorGFun
import Derived.Test.YtadnboagdhcedaaGreatDoorGNode4
import Derived.Test.YtadnboagdhcedaaGreatDoorGJoin

set_option linter.unusedSimpArgs false
set_option linter.unusedVariables false
namespace Go.Ct
section
open Go Go.RowKit
theorem lZ{n:Nat}(h:n<18446744073709551616):IntKind.u64.wrap ((n:Nat):Int)=(n:Int):=by
 have h2:IntKind.u64.wrap (n:Int)=(n:Int)%18446744073709551616:=by simp[IntKind.wrap,IntKind.signed,IntKind.bits]
 omega
theorem Dh(n:Nat)(h:n<18446744073709551616):(BitVec.ofInt IntKind.u64.bits (n:Int)).toNat=n:=by
 show(BitVec.ofInt 64 (n:Int)).toNat=n
 rw[BitVec.toNat_ofInt]
 omega
theorem mL{n m:Nat}(hn:n<18446744073709551616)(hm:m<18446744073709551616):oT .u64 (n:Int) (m:Int)=((n &&& m:Nat):Int):=by
 unfold oT
 rw[BitVec.toNat_and,Dh n hn,Dh m hm]
 exact lZ (Nat.lt_of_le_of_lt Nat.and_le_left hn)
theorem rh{n m:Nat}(hn:n<18446744073709551616)(hm:m<18446744073709551616):rOr .u64 (n:Int) (m:Int)=((n ||| m:Nat):Int):=by
 unfold rOr
 rw[BitVec.toNat_or,Dh n hn,Dh m hm]
 exact lZ (Nat.or_lt_two_pow (n:=64) hn hm)
theorem ia{n m:Nat}(hn:n<18446744073709551616)(hm:m<18446744073709551616):Bh .u64 (n:Int) (m:Int)=((n ^^^ m:Nat):Int):=by
 unfold Bh
 rw[BitVec.toNat_xor,Dh n hn,Dh m hm]
 exact lZ (Nat.xor_lt_two_pow (n:=64) hn hm)
theorem mM{n i:Nat}(hi:i<=64):pI .u64 (n:Int) (i:Int)=((n >>> i:Nat):Int):=by
 unfold pI
 rw[Int.toNat_natCast,show min i IntKind.u64.bits=i from Nat.min_eq_left hi,Nat.shiftRight_eq_div_pow]
 have:(2:Int)^i=((2^i:Nat):Int):=by simp
 rw[this,Int.fdiv_eq_ediv_of_nonneg _ (bT _)]
 rfl
theorem kj{i:Nat}(hi:i<64):Cj .u64 1 (i:Int)=((2^i:Nat):Int):=by
 unfold Cj
 rw[Int.toNat_natCast,show min i IntKind.u64.bits=i from Nat.min_eq_left (Nat.le_of_lt hi),Int.one_mul]
 have:(2:Int)^i=((2^i:Nat):Int):=by simp
 rw[this]
 refine lZ ?_
 have:=Nat.pow_lt_pow_right (a:=2) (by decide) hi
 omega
def gB(n:Nat):Nat->Nat
 | 0=>0
 | k+1=>gB n k+if n.testBit k then 1 else 0
theorem oY(n:Nat):∀k,gB n k<=k
 | 0=>Nat.le_refl _
 | k+1=>by have:=oY n k;simp only[gB];split<;>omega
theorem Jt{n m:Nat}:∀{k:Nat},(∀i,i<k->n.testBit i=m.testBit i)->gB n k=gB m k
 | 0,_=>rfl
 | k+1,h=>by simp only[gB];rw[Jt λ i hi=>h i (Nat.lt_succ_of_lt hi),h k (Nat.lt_succ_self k)]
theorem sM:∀k,gB 0 k=0
 | 0=>rfl
 | k+1=>by simp[gB,sM k]
theorem Vj(n:Nat)(a:Nat):∀k,gB n (a+k)=gB n a+gB (n >>> a) k
 | 0=>rfl
 | k+1=>by
  rw[<- Nat.add_assoc]
  simp only[gB,Vj n a k,Nat.testBit_shiftRight]
  omega
theorem lP{h l i:Nat}(hl:l<256):(256*h+l).testBit i=if i<8 then l.testBit i else h.testBit (i-8):=Nat.testBit_two_pow_mul_add h (i:=8) hl i
theorem ib{h l:Nat}(hl:l<256)(k:Nat):gB (256*h+l) (8+k)=gB l 8+gB h k:=by
 rw[Vj]
 congr 1
 ·exact Jt λ i hi=>by rw[lP hl,if_pos hi]
 ·rw[Nat.shiftRight_eq_div_pow,show 2^8=256 from rfl]
  congr 1
  omega
theorem Dg{a b c d:Nat}(hb:b<256)(hd:d<256):(256*a+b) &&& (256*c+d)=256*(a &&& c)+(b &&& d):=by
 have hbd:b &&& d<256:=Nat.lt_of_le_of_lt Nat.and_le_left hb
 refine Nat.eq_of_testBit_eq λ i=>?_
 rw[Nat.testBit_and,lP hb,lP hd,lP hbd]
 split
 ·rw[Nat.testBit_and]
 ·rw[Nat.testBit_and]
theorem I1{a b s:Nat}(hb:b<256)(hs:s<=8):(256*a+b) >>> s=256*(a >>> s)+((a%2^s)*2^(8-s)+b >>> s):=by
 simp only[Nat.shiftRight_eq_div_pow]
 have h1:256=2^s*2^(8-s):=by rw[<- Nat.pow_add];rw[show s+(8-s)=8 by omega]
 have h2:=Nat.div_add_mod a (2^s)
 have hp:0<2^s:=Nat.two_pow_pos s
 have h3:256*a+b=2^s*(2^(8-s)*a)+b:=by rw[h1,Nat.mul_assoc]
 rw[h3,Nat.mul_add_div hp]
 have h4:2^(8-s)*a=256*(a/2^s)+a%2^s*2^(8-s):=by
  conv=>lhs;rw[<- h2]
  rw[h1,Nat.mul_add,Nat.mul_comm (a%2^s),<- Nat.mul_assoc,Nat.mul_comm (2^(8-s)) (2^s)]
 omega
def kV(s:Nat)(m:Nat)(n:Nat):Nat:=((n >>> s) &&& m)+(n &&& m)
theorem o0{a b s d:Nat}(hb:b<256)(hs:s<=8)(hd:d<2^(8-s)):((a%2^s)*2^(8-s)+b >>> s) &&& d=(b >>> s) &&& d:=by
 have hbs:b >>> s<2^(8-s):=by
  rw[Nat.shiftRight_eq_div_pow]
  refine Nat.div_lt_of_lt_mul ?_
  rw[<- Nat.pow_add,show s+(8-s)=8 by omega]
  exact hb
 refine Nat.eq_of_testBit_eq λ i=>?_
 rw[Nat.testBit_and,Nat.testBit_and,Nat.mul_comm,Nat.testBit_two_pow_mul_add _ hbs]
 split
 ·rfl
 ·rename_i h
  have:d.testBit i=false:=Nat.testBit_lt_two_pow (Nat.lt_of_lt_of_le hd (Nat.pow_le_pow_right (by decide) (by omega)))
  rw[this];simp
theorem Fw{s m a b d:Nat}(hb:b<256)(hs:s<=8)(hs0:0<s)(hd:d<2^(8-s)):kV s (256*m+d) (256*a+b)=256*kV s m a+kV s d b:=by
 have hd':d<256:=Nat.lt_of_lt_of_le hd (Nat.pow_le_pow_right (n:=2) (by decide) (show 8-s<=8 by omega))
 have hL:(a%2^s)*2^(8-s)+b >>> s<256:=by
  have h1:256=2^s*2^(8-s):=by rw[<- Nat.pow_add];rw[show s+(8-s)=8 by omega]
  have h2:a%2^s<2^s:=Nat.mod_lt _ (Nat.two_pow_pos s)
  have h3:b >>> s<2^(8-s):=by
   rw[Nat.shiftRight_eq_div_pow]
   refine Nat.div_lt_of_lt_mul ?_
   rw[<- Nat.pow_add,show s+(8-s)=8 by omega]
   exact hb
  have h4:(a%2^s+1)*2^(8-s)<=2^s*2^(8-s):=Nat.mul_le_mul_right _ h2
  rw[Nat.add_mul,Nat.one_mul] at h4
  omega
 unfold kV
 rw[I1 hb hs,Dg hL hd',Dg hb hd',o0 hb hs hd]
 omega
def vd(l:Nat):Nat:=(((kV 2 51 (kV 1 85 l)) >>> 4)+kV 2 51 (kV 1 85 l)) &&& 15
theorem pq:∀l,l<256->kV 1 85 l<256/\kV 2 51 (kV 1 85 l)<256/\kV 2 51 (kV 1 85 l)%16<=4/\kV 2 51 (kV 1 85 l)/16<=4/\vd l=gB l 8:=by decide +kernel
def sR(d:Nat):Nat->Nat
 | 0=>0
 | k+1=>256*sR d k+d
theorem Gv:∀(k n:Nat),n<256^k ->
  ∃r,(∀q,q=(kV 2 (sR 51 k) (kV 1 (sR 85 k) n))->(((q >>> 4)+q) &&& sR 15 k)=r/\q<256^k/\q%16<=4)/\(∃ps:List Nat,ps.length=k/\(∀p∈ps,p<=8)/\r=ps.foldr (λ p acc=>p+256*acc) 0/\ps.sum=gB n (8*k))
 | 0,n,h=>⟨0,λ q hq=>by
   have h0:n=0:=by simpa using h
   subst h0
   subst hq
   simp[kV,sR],[],rfl,by simp,rfl,by simp[gB]⟩
 | k+1,n,h=>by
  have hl:n%256<256:=Nat.mod_lt _ (by decide)
  have hn:n=256*(n/256)+n%256:=(Nat.div_add_mod n 256).symm
  have hk:n/256<256^k:=by
   refine Nat.div_lt_of_lt_mul ?_
   rw[Nat.mul_comm,<- Nat.pow_succ];exact h
  obtain⟨r,h1,ps,h2,h3,h4,h5⟩:=Gv k (n/256) hk
  obtain⟨b1,b2,b3,b4,b5⟩:=pq (n%256) hl
  obtain⟨q1,q2,q3⟩:=h1 _ rfl
  generalize hQ:kV 2 (sR 51 k) (kV 1 (sR 85 k) (n/256))=Q at *
  refine⟨256*r+gB (n%256) 8,λ q hq=>?_,gB (n%256) 8::ps,by simp[h2],?_,?_,?_⟩
  ·have e:q=256*Q+kV 2 51 (kV 1 85 (n%256)):=by
    rw[hq]
    have e0:kV 1 (sR 85 (k+1)) n=256*kV 1 (sR 85 k) (n/256)+kV 1 85 (n%256):=by
     have:=Fw (s:=1) (m:=sR 85 k) (a:=n/256) hl (by decide) (by decide) (show 85<2^(8-1) by decide)
     rw[<- hn] at this
     exact this
    rw[e0,<- hQ]
    exact Fw (s:=2) (m:=sR 51 k) b1 (by decide) (by decide) (show 51<2^(8-2) by decide)
   generalize hB:kV 2 51 (kV 1 85 (n%256))=B at *
   have hones:((B >>> 4)+B) &&& 15=gB (n%256) 8:=by rw[<- b5,vd,hB]
   have e4:q >>> 4=256*(Q >>> 4)+((Q%16)*16+B >>> 4):=by rw[e];exact I1 (s:=4) b2 (by decide)
   have eB:B >>> 4=B/16:=by rw[Nat.shiftRight_eq_div_pow]
   have hlow:(Q%16)*16+B >>> 4+B<256:=by rw[eB];omega
   have hsum:q >>> 4+q=256*(Q >>> 4+Q)+((Q%16)*16+B >>> 4+B):=by rw[e4,e];omega
   refine⟨?_,?_,?_⟩
   ·rw[hsum]
    show(256*(Q >>> 4+Q)+_) &&& (256*sR 15 k+15)=_
    rw[Dg hlow (by decide),q1,<- hones]
    congr 1
    rw[Nat.and_two_pow_sub_one_eq_mod _ 4,Nat.and_two_pow_sub_one_eq_mod _ 4]
    omega
   ·rw[e,Nat.pow_succ];omega
   ·rw[e];omega
  ·intro p hp
   rcases List.mem_cons.1 hp with rfl|hp
   ·exact oY _ 8
   ·exact h3 p hp
  ·simp only[List.foldr_cons,<- h4];omega
  ·rw[List.sum_cons,h5]
   conv=>rhs;rw[hn]
   rw[show 8*(k+1)=8+8*k by omega,ib hl]
end

/- The last step of OnesCount64: numbers alone. -/
section
theorem aCR{x a b:Nat}(ha:a<256)(h:x=a+256*b):x/256=b:=by omega
theorem aCX{x a b:Nat}(ha:a<65536)(h:x=a+65536*b):x/65536=b:=by omega
theorem aCt{x a b:Nat}(ha:a<4294967296)(h:x=a+4294967296*b):x/4294967296=b:=by omega
theorem y0{t p s B:Nat}(e:t=p+256*s)(hp:p<=8)(hs:s<=B):t<=8+256*B:=by omega
theorem fa{r t1 t2 t3 p0 p1 p2:Nat}(e0:r=p0+256*t1)(e1:t1=p1+256*t2)(e2:t2=p2+256*t3):r+t1=((p0+p1)+256*(p1+p2))+65536*(t2+t3):=by omega
theorem ca{p0 p1 p2:Nat}(g0:p0<=8)(g1:p1<=8)(g2:p2<=8):(p0+p1)+256*(p1+p2)<65536:=by omega
theorem fb0{t2 t3 t4 t5 t6 t7 p2 p3 p4 p5 p6:Nat}(e2:t2=p2+256*t3)(e3:t3=p3+256*t4)(e4:t4=p4+256*t5)(e5:t5=p5+256*t6)(e6:t6=p6+256*t7):t2+t3+t4+t5=(p2+p3+p4+p5)+256*(p3+p4+p5+p6)+65536*(t4+t5+t6+t7):=by
 subst e6
 omega
theorem fb{r t1 t2 t3 t4 t5 t6 t7 p0 p1 p2 p3 p4 p5 p6:Nat}(f4:r+t1=((p0+p1)+256*(p1+p2))+65536*(t2+t3))(e2:t2=p2+256*t3)(e3:t3=p3+256*t4)(e4:t4=p4+256*t5)(e5:t5=p5+256*t6)(e6:t6=p6+256*t7) :
  r+t1+(t2+t3)=((p0+p1+p2+p3)+256*(p1+p2+p3+p4)+65536*(p2+p3+p4+p5)+16777216*(p3+p4+p5+p6))+4294967296*(t4+t5+t6+t7):=by
 have h1:=fb0 e2 e3 e4 e5 e6
 have h2:t2+t3=(p2+p3)+256*(t3+t4):=by clear h1 f4 e4 e5 e6;omega
 have h3:t3+t4=(p3+p4)+256*(t4+t5):=by clear h1 h2 f4 e2 e5 e6;omega
 clear e2 e3 e4 e5 e6
 omega
theorem cb{p0 p1 p2 p3 p4 p5 p6:Nat}(g0:p0<=8)(g1:p1<=8)(g2:p2<=8)(g3:p3<=8)(g4:p4<=8)(g5:p5<=8)(g6:p6<=8):(p0+p1+p2+p3)+256*(p1+p2+p3+p4)+65536*(p2+p3+p4+p5)+16777216*(p3+p4+p5+p6)<4294967296:=by omega
theorem fc{r t1:Nat}(b0:r<=8+256*(8+256*(8+256*(8+256*(8+256*(8+256*(8+256*8)))))))(b1:t1<=8+256*(8+256*(8+256*(8+256*(8+256*(8+256*8)))))):r+t1<9223372036854775808:=by omega
theorem fd{r t1 t2 t3:Nat}(b0:r<=8+256*(8+256*(8+256*(8+256*(8+256*(8+256*(8+256*8)))))))(b1:t1<=8+256*(8+256*(8+256*(8+256*(8+256*(8+256*8))))))(b2:t2<=8+256*(8+256*(8+256*(8+256*(8+256*8)))))(b3:t3<=8+256*(8+256*(8+256*(8+256*8)))):r+t1+(t2+t3)<9223372036854775808:=by omega
theorem fe{p1 p2 p3 p4 p5 p6 t4 t5 t6 t7:Nat}(g1:p1<=8)(g2:p2<=8)(g3:p3<=8)(g4:p4<=8)(g5:p5<=8)(g6:p6<=8)(b4:t4<=8+256*(8+256*(8+256*8)))(b5:t5<=8+256*(8+256*8))(b6:t6<=8+256*8)(b7:t7<=8) :
  (p1+p2+p3+p4)+256*(p2+p3+p4+p5)+65536*(p3+p4+p5+p6)+16777216*(t4+t5+t6+t7)+(t5+t6+t7)<36028797018963968:=by omega
theorem ff{p0 p1 p2 p3 p4 p5 p6 p7 t4 t5 t6 t7:Nat}(e4:t4=p4+256*t5)(e5:t5=p5+256*t6)(e6:t6=p6+256*t7)(e7:t7=p7) :
  ((p0+p1+p2+p3)+256*(p1+p2+p3+p4)+65536*(p2+p3+p4+p5)+16777216*(p3+p4+p5+p6))+4294967296*(t4+t5+t6+t7)+(t4+t5+t6+t7) =
   (p0+p1+p2+p3+p4+p5+p6+p7)+256*((p1+p2+p3+p4)+256*(p2+p3+p4+p5)+65536*(p3+p4+p5+p6)+16777216*(t4+t5+t6+t7)+(t5+t6+t7)):=by
 have h:t4+t5+t6+t7=(p4+p5+p6+p7)+256*(t5+t6+t7):=by omega
 generalize t4+t5+t6+t7=s at *
 clear e4 e5 e6 e7
 omega
theorem j6{p0 p1 p2 p3 p4 p5 p6 p7 r t1 t2 t3 t4 t5 t6 t7:Nat}(g0:p0<=8)(g1:p1<=8)(g2:p2<=8)(g3:p3<=8)(g4:p4<=8)(g5:p5<=8)(g6:p6<=8)(g7:p7<=8)
  (e0:r=p0+256*t1) (e1:t1=p1+256*t2) (e2:t2=p2+256*t3) (e3:t3=p3+256*t4) (e4:t4=p4+256*t5) (e5:t5=p5+256*t6) (e6:t6=p6+256*t7) (e7:t7=p7) :
  r+r/256<9223372036854775808/\(r+r/256)+(r+r/256)/65536<9223372036854775808/\∃K,K<36028797018963968/\((r+r/256)+(r+r/256)/65536)+((r+r/256)+(r+r/256)/65536)/4294967296=(p0+p1+p2+p3+p4+p5+p6+p7)+256*K:=by
 have b7:t7<=8:=by rw[e7];exact g7
 have b6:=y0 e6 g6 b7
 have b5:=y0 e5 g5 b6
 have b4:=y0 e4 g4 b5
 have b3:=y0 e3 g3 b4
 have b2:=y0 e2 g2 b3
 have b1:=y0 e1 g1 b2
 have b0:=y0 e0 g0 b1
 have f4:r+t1=((p0+p1)+256*(p1+p2))+65536*(t2+t3):=fa e0 e1 e2
 have c4:(p0+p1)+256*(p1+p2)<65536:=ca g0 g1 g2
 have f5:r+t1+(t2+t3)=((p0+p1+p2+p3)+256*(p1+p2+p3+p4)+65536*(p2+p3+p4+p5)+16777216*(p3+p4+p5+p6))+4294967296*(t4+t5+t6+t7):=fb f4 e2 e3 e4 e5 e6
 have c5:=cb g0 g1 g2 g3 g4 g5 g6
 rw[aCR (Nat.lt_of_le_of_lt g0 (by decide)) e0,aCX c4 f4,aCt c5 f5]
 refine⟨fc b0 b1,fd b0 b1 b2 b3,(p1+p2+p3+p4)+256*(p2+p3+p4+p5)+65536*(p3+p4+p5+p6)+16777216*(t4+t5+t6+t7)+(t5+t6+t7),?_,?_⟩
 ·exact fe g1 g2 g3 g4 g5 g6 b4 b5 b6 b7
 ·rw[f5];exact ff e4 e5 e6 e7
end

/- Bits, the second part. -/
section
open Go Go.RowKit
theorem aAx{c K:Nat}(hc:c<=64)(hK:K<36028797018963968):oT .i64 (IntKind.i64.wrap ((c+256*K:Nat):Int)) 127=(c:Int):=by
 rw[wrap_i64 (by omega) (by omega)]
 unfold oT
 have h1:(BitVec.ofInt IntKind.i64.bits ((c+256*K:Nat):Int)).toNat=c+256*K:=by
  show(BitVec.ofInt 64 ((c+256*K:Nat):Int)).toNat=_
  rw[BitVec.toNat_ofInt]
  omega
 have h2:(BitVec.ofInt IntKind.i64.bits 127).toNat=127:=by decide
 rw[BitVec.toNat_and,h1,h2,show(127:Nat)=2^7-1 from rfl,Nat.and_two_pow_sub_one_eq_mod]
 have h3:(c+256*K)%2^7=c:=by omega
 rw[h3]
 exact wrap_i64 (by omega) (by omega)
theorem nL{n:Nat}(hn:n<18446744073709551616):zE (n:Int)=((gB n 64:Nat):Int):=by
 obtain⟨r,h1,ps,h2,h3,h4,h5⟩:=Gv 8 n hn
 obtain⟨q1,q2,_⟩:=h1 _ rfl
 match ps,h2 with
 | [p0,p1,p2,p3,p4,p5,p6,p7],_ =>
  simp only[List.mem_cons,List.not_mem_nil,or_false,forall_eq_or_imp,forall_eq] at h3
  simp only[List.foldr_cons,List.foldr_nil] at h4
  simp only[List.sum_cons,List.sum_nil] at h5
  obtain⟨g0,g1,g2,g3,g4,g5,g6,g7⟩:=h3
  have b5:kV 1 6148914691236517205 n<18446744073709551616:=by
   unfold kV
   have h1:(n >>> 1) &&& 6148914691236517205<=6148914691236517205:=Nat.and_le_right
   have h2:n &&& 6148914691236517205<=6148914691236517205:=Nat.and_le_right
   omega
  have e1:∀m:Nat,m<18446744073709551616->IntKind.u64.wrap (oT .u64 (pI .u64 (m:Int) 1) 6148914691236517205+oT .u64 (m:Int) 6148914691236517205)=((kV 1 6148914691236517205 m:Nat):Int):=λ m hm=>by
   have hs:m >>> 1<18446744073709551616:=Nat.lt_of_le_of_lt (Nat.shiftRight_le _ _) hm
   have r1:pI .u64 (m:Int) 1=((m >>> 1:Nat):Int):=mM (i:=1) (by decide)
   have a1:oT .u64 ((m >>> 1:Nat):Int) 6148914691236517205=(((m >>> 1) &&& 6148914691236517205:Nat):Int):=mL hs (m:=6148914691236517205) (by decide)
   have a2:oT .u64 (m:Int) 6148914691236517205=((m &&& 6148914691236517205:Nat):Int):=mL hm (m:=6148914691236517205) (by decide)
   rw[r1,a1,a2,<- Int.natCast_add]
   refine lZ ?_
   have h1:(m >>> 1) &&& 6148914691236517205<=6148914691236517205:=Nat.and_le_right
   have h2:m &&& 6148914691236517205<=6148914691236517205:=Nat.and_le_right
   omega
  have e2:∀m:Nat,m<18446744073709551616->IntKind.u64.wrap (oT .u64 (pI .u64 (m:Int) 2) 3689348814741910323+oT .u64 (m:Int) 3689348814741910323)=((kV 2 3689348814741910323 m:Nat):Int):=λ m hm=>by
   have hs:m >>> 2<18446744073709551616:=Nat.lt_of_le_of_lt (Nat.shiftRight_le _ _) hm
   have r1:pI .u64 (m:Int) 2=((m >>> 2:Nat):Int):=mM (i:=2) (by decide)
   have a1:oT .u64 ((m >>> 2:Nat):Int) 3689348814741910323=(((m >>> 2) &&& 3689348814741910323:Nat):Int):=mL hs (m:=3689348814741910323) (by decide)
   have a2:oT .u64 (m:Int) 3689348814741910323=((m &&& 3689348814741910323:Nat):Int):=mL hm (m:=3689348814741910323) (by decide)
   rw[r1,a1,a2,<- Int.natCast_add]
   refine lZ ?_
   have h1:(m >>> 2) &&& 3689348814741910323<=3689348814741910323:=Nat.and_le_right
   have h2:m &&& 3689348814741910323<=3689348814741910323:=Nat.and_le_right
   omega
  have m5:sR 85 8=6148914691236517205:=by decide
  have m3:sR 51 8=3689348814741910323:=by decide
  have mf:sR 15 8=1085102592571150095:=by decide
  rw[m5,m3] at q1 q2
  rw[mf] at q1
  unfold zE
  simp only[]
  rw[e1 n hn,e2 _ b5]
  generalize kV 2 3689348814741910323 (kV 1 6148914691236517205 n)=Q at *
  have hQ:Q<18446744073709551616:=q2
  have hr:r<18446744073709551616:=by rw[<- q1];exact Nat.lt_of_le_of_lt Nat.and_le_right (by decide)
  have e3:oT .u64 (IntKind.u64.wrap (pI .u64 (Q:Int) 4+(Q:Int))) 1085102592571150095=(r:Int):=by
   have r1:pI .u64 (Q:Int) 4=((Q >>> 4:Nat):Int):=mM (i:=4) (by decide)
   rw[r1,<- Int.natCast_add]
   have h2:IntKind.u64.wrap ((Q >>> 4+Q:Nat):Int)=(((Q >>> 4+Q)%18446744073709551616:Nat):Int):=by
    have:IntKind.u64.wrap ((Q >>> 4+Q:Nat):Int)=((Q >>> 4+Q:Nat):Int)%18446744073709551616:=by simp[IntKind.wrap,IntKind.signed,IntKind.bits]
    rw[this];omega
   rw[h2]
   have a1:=mL (n:=(Q >>> 4+Q)%18446744073709551616) (m:=1085102592571150095) (Nat.mod_lt _ (by decide)) (by decide)
   refine a1.trans ?_
   rw[<- q1]
   congr 1
   refine Nat.eq_of_testBit_eq λ i=>?_
   rw[Nat.testBit_and,Nat.testBit_and,show(18446744073709551616:Nat)=2^64 from rfl,Nat.testBit_mod_two_pow]
   by_cases hi:i<64
   ·simp[hi]
   ·have:(1085102592571150095:Nat).testBit i=false:=Nat.testBit_lt_two_pow (Nat.lt_of_lt_of_le (by decide:(1085102592571150095:Nat)<2^64) (Nat.pow_le_pow_right (by decide) (by omega)))
    rw[this];simp
  rw[e3]
  have s1:∀m:Nat,pI .u64 (m:Int) 8=((m/256:Nat):Int):=λ m=>by
   have:pI .u64 (m:Int) 8=((m >>> 8:Nat):Int):=mM (i:=8) (by decide)
   rw[this,Nat.shiftRight_eq_div_pow]
  have s2:∀m:Nat,pI .u64 (m:Int) 16=((m/65536:Nat):Int):=λ m=>by
   have:pI .u64 (m:Int) 16=((m >>> 16:Nat):Int):=mM (i:=16) (by decide)
   rw[this,Nat.shiftRight_eq_div_pow]
  have s3:∀m:Nat,pI .u64 (m:Int) 32=((m/4294967296:Nat):Int):=λ m=>by
   have:pI .u64 (m:Int) 32=((m >>> 32:Nat):Int):=mM (i:=32) (by decide)
   rw[this,Nat.shiftRight_eq_div_pow]
  have w64:∀m:Nat,m<9223372036854775808->IntKind.u64.wrap ((m:Nat):Int)=(m:Int):=λ m hm=>lZ (by omega)
  have hs:gB n 64=p0+p1+p2+p3+p4+p5+p6+p7:=by rw[show(64:Nat)=8*8 from rfl,<- h5];omega
  have hc:=oY n 64
  have hx:=j6 (t7:=p7) (t6:=p6+256*p7) (t5:=p5+256*(p6+256*p7)) (t4:=p4+256*(p5+256*(p6+256*p7))) (t3:=p3+256*(p4+256*(p5+256*(p6+256*p7)))) (t2:=p2+256*(p3+256*(p4+256*(p5+256*(p6+256*p7))))) (t1:=p1+256*(p2+256*(p3+256*(p4+256*(p5+256*(p6+256*p7)))))) (r:=r) g0 g1 g2 g3 g4 g5 g6 g7 (by rw[h4];rfl) rfl rfl rfl rfl rfl rfl rfl
  clear h4 q1 q2 e3 e1 e2 b5 h1 hr hQ hn m5 m3 mf h5
  obtain⟨x4,x5,K,hK,x6⟩:=hx
  rw[s1,<- Int.natCast_add,w64 _ x4,s2,<- Int.natCast_add,w64 _ x5,s3,<- Int.natCast_add,x6,<- hs,w64 _ (by omega)]
  exact aAx hc hK
end

/- The functions on bitmaps. -/
section
open Go Go.RowKit
def qN(n:Nat)(i:Int):Bool:=decide (0<=i)&&(decide (i<64)&&n.testBit i.toNat)
theorem pz(n:Nat){i:Int}(h:i<0):qN n i=false:=by simp[qN];omega
theorem V9(n:Nat){i:Int}(h:64<=i):qN n i=false:=by simp[qN];omega
theorem tC(n:Nat){i:Int}(h0:0<=i)(h1:i<64):qN n i=n.testBit i.toNat:=by simp[qN,h0,h1]
theorem rb{n:Nat}(hn:n<18446744073709551616){i:Int}(h0:0<=i)(h1:i<64):(oT .u64 (pI .u64 (n:Int) i) 1==1)=qN n i:=by
 obtain⟨k,rfl⟩:=Int.eq_ofNat_of_zero_le h0
 rw[tC n h0 h1,mM (by omega)];have h2:oT .u64 ((n >>> k:Nat):Int) 1=(((n >>> k) &&& 1:Nat):Int):=mL (Nat.lt_of_le_of_lt (Nat.shiftRight_le _ _) hn) (m:=1) (by decide);rw[h2];simp only[Int.toNat_natCast,Nat.testBit,Nat.and_comm 1]
 rw[Nat.and_one_is_mod]
 rcases Nat.mod_two_eq_zero_or_one (n >>> k) with h|h<;>rw[h]<;>rfl
def rK(n:Nat)(i:Int):Nat:=gB n (min i.toNat 64)
def eL(n:Nat)(i:Int):Nat:=if 0<=i/\i<64 then n ||| 2^i.toNat else n
def wV(n:Nat)(i:Int):Nat:=if 0<=i/\i<64 then n ^^^ (n &&& 2^i.toNat) else n
theorem Z8{n:Nat}(hn:n<18446744073709551616){i:Int}(h0:0<=i)(h1:i<64):rOr .u64 (n:Int) (Cj .u64 1 i)=((eL n i:Nat):Int):=by
 obtain⟨k,rfl⟩:=Int.eq_ofNat_of_zero_le h0
 have hp:=Nat.pow_lt_pow_right (a:=2) (by decide) (show k<64 by omega);rw[kj (by omega),rh hn (by omega),eL,if_pos ⟨h0,h1⟩];rfl
theorem A1{n:Nat}(hn:n<18446744073709551616)(i:Int):eL n i<18446744073709551616:=by
 unfold eL
 split
 ·rename_i h
  have hp:=Nat.pow_lt_pow_right (a:=2) (by decide) (show i.toNat<64 by omega);exact Nat.or_lt_two_pow (n:=64) hn hp
 ·exact hn
end
end Go.Ct
namespace Go.Proofs.YtadnboagdhcedaaGreatDoor
section
open Go.RowKit Go.Ct
theorem Gc{n:Nat}(hn:n<18446744073709551616)(i:Int)(w:World):Calls Tryz.prog 106 #[.int .u64 (n:Int),.int .i64 i] w λ e w'=>e=.returned (.bool (qN n i))/\St w [] [] w':=by
 refine enter Tryz.func106 Tryz.ntmps106 rfl rfl (SF.s0 w) ?_;simp only[cP]
 refine cR ?_;refine J2 ?_;refine oD ?_;refine aB ?_;(refine eM 7 (λ g7=>?_) (λ g7=>?_)<;>refine Ka0 ?_);all_goals (refine u4 ?_;refine aB ?_)
 all_goals (first|refine aJ ?_|(refine eM 11 (λ g11=>?_) (λ g11=>?_)<;>refine Ka0 ?_))
 all_goals (refine Ka0 ?_;(first|refine aJ ?_|(refine aF ?_;refine jO ?_));(first|refine aJ ?_|(refine aF ?_;refine D4 ?_));(first|refine aJ ?_|(refine aF ?_;refine A6 ?_));refine zC ?_;refine J1 ?_)
 all_goals
 refine aR Tryz.results106 (λ w hw=>?_);first|(rw[pz n (by omega)];exact⟨rfl,hw.done⟩)|(rw[V9 n (by omega)];exact⟨rfl,hw.done⟩)|(rw[<- rb hn (by omega) (by omega)];exact⟨rfl,hw.done⟩)
theorem P0{n:Nat}(hn:n<18446744073709551616)(i:Int)(w:World):Calls Tryz.prog 147 #[.int .u64 (n:Int),.int .i64 i] w λ e w'=>e=.returned (.int .i64 ((rK n i:Nat):Int))/\St w [] [] w':=by
 refine enter Tryz.func147 Tryz.ntmps147 rfl rfl (SF.s0 w) ?_;simp only[cP]
 refine cR ?_;refine Ke3 ?_;refine fK [5,6,7,8,9,10,11,12,13,14,15,16,17,18,19,20] (λ k=>[(5,.int .i64 ((gB n k:Nat):Int)),(6,.int .i64 ((k:Nat):Int))]) (λ k=>k<=64/\(k:Int)<=max i 0) (λ k=>64-k) (0) (⟨by decide,by omega⟩) ?_ (λ k f hx=>?_)
 ·repeat (first|exact bC _|refine aY (by exact rfl) ?_)
 refine K0a ?_;have hcl:=oY n k;refine jL ?_;refine zB ?_;(refine eM 9 (λ g9=>?_) (λ g9=>?_)<;>refine Ka0 ?_);all_goals (refine Ka0 ?_;refine u4 ?_;refine aK ?_)
 all_goals
 refine bA (λ c13=>?_) (λ c13=>?_)
 ·try exact nv c13
  all_goals (refine mZ ?_;refine jJ ?_;refine aS (cV (hc:=λ w1 hw=>Gc hn (k:Int) w1)) (λ x18=>?_);refine aK ?_)
  all_goals
   refine bA (λ c18=>?_) (λ c18=>?_)
   ·refine sK ?_;refine Kc2 ?_;refine dW (k+1) ?_ ?_ ?_
    ·omega
    ·repeat' (first|exact bC _|refine aY ?_ ?_)
     all_goals (first|exact rfl|(rw[tC n (by omega) (by omega),Int.toNat_natCast] at *;conv=>{lhs;whnf};congr 2;simp only[gB];simp_all;done))
    ·omega
   ·refine Kc1 ?_;refine dW (k+1) ?_ ?_ ?_
    ·omega
    ·repeat' (first|exact bC _|refine aY ?_ ?_)
     all_goals (first|exact rfl|(rw[tC n (by omega) (by omega),Int.toNat_natCast] at *;conv=>{lhs;whnf};congr 2;simp only[gB];simp_all;done))
    ·omega
 ·all_goals (refine bM rfl ?_;refine Ka5 ?_)
  all_goals
   refine aR Tryz.results147 (λ w hw=>?_);have:rK n i=gB n k:=by unfold rK;congr 1;omega
   rw[this]
   exact⟨rfl,hw.done⟩
theorem Sb{n:Nat}(hn:n<18446744073709551616)(w:World):Calls Tryz.prog 138 #[.int .u64 (n:Int)] w λ e w'=>e=.returned (.int .i64 ((gB n 64:Nat):Int))/\St w [] [] w':=by
 refine enter Tryz.func138 Tryz.ntmps138 rfl rfl (SF.s0 w) ?_;simp only[cP]
 refine cR ?_;refine J2 ?_;refine aS (cV (hc:=λ w1 hw=>P0 hn 64 w1)) (λ x4=>?_);refine J1 ?_;refine aR Tryz.results138 (λ w hw=>?_);exact⟨rfl,hw.done⟩
theorem bu{n:Nat}(hn:n<18446744073709551616)(w:World):Calls Tryz.prog 73 #[.int .u64 (n:Int)] w λ e w'=>e=.returned (.int .i64 ((gB n 64:Nat):Int))/\St w [] [] w':=by
 rw[<- nL hn];exact Wz _ w
theorem nT{n:Nat}(hn:n<18446744073709551616)(i:Int)(w:World):Calls Tryz.prog 164 #[.int .u64 (n:Int),.int .i64 i] w λ e w'=>e=.returned (.int .u64 ((eL n i:Nat):Int))/\St w [] [] w':=by
 refine enter Tryz.func164 Tryz.ntmps164 rfl rfl (SF.s0 w) ?_;simp only[cP]
 refine Kb4 ?_;refine zB ?_;(refine eM 7 (λ g7=>?_) (λ g7=>?_)<;>refine Ka0 ?_);all_goals (refine Kb2 ?_)
 all_goals
 refine bA (λ c10=>?_) (λ c10=>?_)
 ·all_goals (refine Ka5 ?_)
  all_goals
   refine aR Tryz.results164 (λ w hw=>?_);(rw[show eL n i=n by unfold eL;rw[if_neg (by omega)]];exact⟨rfl,hw.done⟩)
 ·try exact nv c10
  all_goals (refine Cg ?_;refine jO ?_;refine aBF ?_;refine aCA ?_;refine J1 ?_)
  all_goals
   refine aR Tryz.results164 (λ w hw=>?_);(rw[<- Z8 hn (by omega) (by omega)];exact⟨rfl,hw.done⟩)
end

/- Nodes and lists of pairs out of tapes. -/
end Go.Proofs.YtadnboagdhcedaaGreatDoor
namespace Go.Ct
section
end
end Go.Ct
namespace Go.Proofs.YtadnboagdhcedaaGreatDoor
section
open Go.RowKit Go.Ct
end

/- A node out of a tape. -/
section
open Go.RowKit Go.Ct
end

/- Memories that come out of tapes are proper. -/
section
open Go.Ct
end

/- A memory out of a tape. -/
end Go.Proofs.YtadnboagdhcedaaGreatDoor
namespace Go.Ct
section
end
end Go.Ct
namespace Go.Proofs.YtadnboagdhcedaaGreatDoor
section
open Go.RowKit Go.Ct
end

/- Loads out of lists that are known. -/
end Go.Proofs.YtadnboagdhcedaaGreatDoor
namespace Go.Ct
section
open Go Go.RowKit
section
variable{P:Program}{S:List (Nat×Value)}{w0 w w':World}{M:List Nat}{H:List (Nat×Obj)}{A F:Fr}{O:List Ow}{d:Nat}{ty t:TypeId}{pos:String}{af:Array Edge}{gd:Option (Nat×Bool)}{x y:Operand}{v:Value}
theorem j1{a:Option Addr}{cs vs:List Value}{q k:Nat}(hx:ev S x=.pointer (some ⟨cZ a,eG a+q,none⟩))(ht:jK P t k=true)(hf:pS A F O a cs)(hv:(cs.drop q).take k=vs)(hl:vs.length=k) :
  aM P S (SF w0 M H A F O) ⟨some d,.load t x,ty,pos,af,gd⟩ (.agg ⟨vs⟩):=⟨λ w hw=>by
 have hcl:=hw.cl hf;obtain⟨dd,hu,hm,hi⟩:=gZ ht
 have hagg:(isAgg t).run P w=.ok true w:=by
  unfold isAgg
  rw[Sem.run_bind,run_underlying hu w]
  cases dd<;>simp_all
 have hc:(loadCells ⟨cZ a,eG a+q,none⟩ k).run P w=.ok ⟨vs⟩ w:=by
  have:=run_loadCells_list (P:=P) w ⟨cZ a,eG a+q,none⟩ vs (λ j z hz=>by
   subst hv;have hj:=(List.getElem?_eq_some_iff.1 hz).1
   have h2:cs[q+j]?=some z:=by
    rw[List.getElem?_take_of_lt (by simp at hj;omega),List.getElem?_drop] at hz
    exact hz
   rw[Addr.add_lit,show eG a+q+j=eG a+(q+j) by omega]
   exact(hcl.at_ _ _ h2).2)
  rw[hl] at this
  simpa using this
 cases hq':P.info? t with
 | none=>rw[hq'] at hi;simp at hi
 | some i =>
  have hs:i.size=k:=by rw[hq'] at hi;simpa using hi
  simp[execOp,hx,Instr.loadAt,Instr.sureAddr,loadVar,hagg,Go.sizeOf,typeInfo,hq',hs,hc]⟩
end
end

/- Lists of things of some cells each. -/
section
open Go Go.RowKit
section
variable{w0 w w':World}{M:List Nat}{H:List (Nat×Obj)}{A F:Fr}{O:List Ow}
variable{P:Program}{S:List (Nat×Value)}{G:World->Prop}{d:Nat}{ty:TypeId}{pos:String}{af:Array Edge}{gd:Option (Nat×Bool)}{x y:Operand}{t t2 e:TypeId}{p a:Option Addr}{i m k c c2 sz:Nat}
variable{α:Type}{g:α->List Value}{z:α}
theorem Ed(hg:∀x,(g x).length=sz):∀l:List α,(l.flatMap g).length=sz*l.length
 | []=>by simp
 | x::r=>by
  have:=Ed hg r;simp only[List.flatMap_cons,List.length_append,List.length_cons,this,hg,Nat.mul_add,Nat.mul_one]
  omega
theorem K1(hg:∀x,(g x).length=sz):∀{l:List α} {k j:Nat},k<l.length->j<sz->(l.flatMap g)[sz*k+j]?=(g (l.getD k z))[j]?
 | [],_,_,h,_=>by simp at h
 | n::r,0,j,_,hj=>by
  simp only[List.flatMap_cons,Nat.mul_zero,Nat.zero_add,List.getD_cons_zero]
  rw[List.getElem?_append_left (by rw[hg];exact hj)]
 | n::r,k+1,j,h,hj=>by
  have:=K1 hg (l:=r) (k:=k) (j:=j) (by simpa using h) hj;simp only[List.flatMap_cons,List.getD_cons_succ]
  rw[List.getElem?_append_right (by rw[hg,Nat.mul_add];omega),<- this,hg]
  congr 1
  rw[Nat.mul_add]
  omega
theorem Fg{lst:List α}{kk:IntKind}(hg:∀x,(g x).length=sz)(h0:0<sz)(hx:ev S x=.slice a m c)(hy:ev S y=.int kk ((k:Nat):Int))(ht:P.underlying t=some (.slice e))(hs:jK P e sz=true)(hf:pS A F O a (lst.flatMap g))(h1:k<m)(h2:k<lst.length) :
  aM P S (SF w0 M H A F O) ⟨some d,.indexAddr t x y,ty,pos,af,gd⟩ (.pointer (some ⟨cZ a,eG a+sz*k,none⟩)):=⟨λ w hw=>by
 obtain⟨_,_,_,hsz⟩:=gZ hs
 have ha:=(hw.cl hf).ptr (by rw[Ed hg];exact Nat.mul_pos h0 (by omega));have:=yM (P:=P) (a:=a) (m:=m) (c:=c) (k:=kk) ht hsz ha (i:=(k:Int)) (by omega) (by omega) w;simp only[Int.toNat_natCast,Nat.mul_comm k sz] at this
 simp[execOp,hx,hy,this]⟩
theorem ta{lst:List α}{q:Nat}(z:α)(hg:∀x,(g x).length=sz)(hx:ev S x=.pointer (some ⟨cZ a,eG a+sz*q,none⟩))(ht:jK P t sz=true)(hf:pS A F O a (lst.flatMap g))(hq:q<lst.length) :
  aM P S (SF w0 M H A F O) ⟨some d,.load t x,ty,pos,af,gd⟩ (.agg ⟨g (lst.getD q z)⟩):=⟨λ w hw=>by
 have hcl:=hw.cl hf;obtain⟨dd,hu,hm,hi⟩:=gZ ht
 have hagg:(isAgg t).run P w=.ok true w:=by
  unfold isAgg
  rw[Sem.run_bind,run_underlying hu w]
  cases dd<;>simp_all
 have hl:(loadCells ⟨cZ a,eG a+sz*q,none⟩ sz).run P w=.ok ⟨g (lst.getD q z)⟩ w:=by
  have:=run_loadCells_list (P:=P) w ⟨cZ a,eG a+sz*q,none⟩ (g (lst.getD q z)) (λ j u hz=>by
   have hj:j<sz:=by rw[<- hg (lst.getD q z)];exact(List.getElem?_eq_some_iff.1 hz).1
   rw[Addr.add_lit];have h3:=(hcl.at_ (sz*q+j) u (by rw[K1 hg hq hj];exact hz)).2
   rwa [<- Nat.add_assoc] at h3)
  rwa [hg] at this
 cases hq':P.info? t with
 | none=>rw[hq'] at hi;simp at hi
 | some i =>
  have hs:i.size=sz:=by rw[hq'] at hi;simpa using hi
  simp[execOp,hx,Instr.loadAt,Instr.sureAddr,loadVar,hagg,Go.sizeOf,typeInfo,hq',hs,hl]⟩
theorem O7{lst:List α}{q j:Nat}{v:Value}(z:α)(hg:∀x,(g x).length=sz)(hx:ev S x=.pointer (some ⟨cZ a,eG a+sz*q+j,none⟩))(ht:one P t=true)(hj:j<sz)(hv:(g (lst.getD q z))[j]?=some v)(hf:pS A F O a (lst.flatMap g))(hq:q<lst.length) :
  aM P S (SF w0 M H A F O) ⟨some d,.load t x,ty,pos,af,gd⟩ v:=mJ (q:=sz*q+j) (by rw[hx];simp only[Nat.add_assoc]) ht (λ w hw=>hw.cl hf) (by rw[K1 (z:=z) hg hq hj];exact hv)
end
end

end Go.Ct
