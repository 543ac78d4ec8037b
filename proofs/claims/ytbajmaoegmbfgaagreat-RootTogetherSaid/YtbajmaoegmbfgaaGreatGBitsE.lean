/- The last step of OnesCount64: numbers alone. -/
import Derived.Test.YtbajmaoegmbfgaaGreatGMem
import Derived.Test.YtbajmaoegmbfgaaGreatGPa4
import Derived.Test.YtbajmaoegmbfgaaGreatGAr5

set_option linter.unusedSimpArgs false
set_option linter.unusedVariables false
namespace Go.Ct
section
theorem aBn{x a b:Nat}(ha:a<256)(h:x=a+256*b):x/256=b:=by omega
theorem aBC{x a b:Nat}(ha:a<65536)(h:x=a+65536*b):x/65536=b:=by omega
theorem aBM{x a b:Nat}(ha:a<4294967296)(h:x=a+4294967296*b):x/4294967296=b:=by omega
theorem wo{t p s B:Nat}(e:t=p+256*s)(hp:p<=8)(hs:s<=B):t<=8+256*B:=by omega
theorem fa{r t1 t2 t3 p0 p1 p2:Nat}(e0:r=p0+256*t1)(e1:t1=p1+256*t2)(e2:t2=p2+256*t3):r+t1=((p0+p1)+256*(p1+p2))+65536*(t2+t3):=by omega
theorem ca{p0 p1 p2:Nat}(g0:p0<=8)(g1:p1<=8)(g2:p2<=8):(p0+p1)+256*(p1+p2)<65536:=by omega
theorem fb0{t2 t3 t4 t5 t6 t7 p2 p3 p4 p5 p6:Nat}(e2:t2=p2+256*t3)(e3:t3=p3+256*t4)(e4:t4=p4+256*t5)(e5:t5=p5+256*t6)(e6:t6=p6+256*t7):t2+t3+t4+t5=(p2+p3+p4+p5)+256*(p3+p4+p5+p6)+65536*(t4+t5+t6+t7):=by
 subst e6
 omega
theorem fb{r t1 t2 t3 t4 t5 t6 t7 p0 p1 p2 p3 p4 p5 p6:Nat}(f4:r+t1=((p0+p1)+256*(p1+p2))+65536*(t2+t3))(e2:t2=p2+256*t3)(e3:t3=p3+256*t4)(e4:t4=p4+256*t5)(e5:t5=p5+256*t6)(e6:t6=p6+256*t7) :
  r+t1+(t2+t3)=((p0+p1+p2+p3)+256*(p1+p2+p3+p4)+65536*(p2+p3+p4+p5)+16777216*(p3+p4+p5+p6))+4294967296*(t4+t5+t6+t7):=by
 have h1:=fb0 e2 e3 e4 e5 e6
 have h2:t2+t3=(p2+p3)+256*(t3+t4):=by clear h1 f4 e4 e5 e6;omega
 have h3:t3+t4=(p3+p4)+256*(t4+t5):=by clear h1 h2 f4 e2 e5 e6;omega
 clear e2 e3 e4 e5 e6
 omega
theorem cb{p0 p1 p2 p3 p4 p5 p6:Nat}(g0:p0<=8)(g1:p1<=8)(g2:p2<=8)(g3:p3<=8)(g4:p4<=8)(g5:p5<=8)(g6:p6<=8):(p0+p1+p2+p3)+256*(p1+p2+p3+p4)+65536*(p2+p3+p4+p5)+16777216*(p3+p4+p5+p6)<4294967296:=by omega
theorem fc{r t1:Nat}(b0:r<=8+256*(8+256*(8+256*(8+256*(8+256*(8+256*(8+256*8)))))))(b1:t1<=8+256*(8+256*(8+256*(8+256*(8+256*(8+256*8)))))):r+t1<9223372036854775808:=by omega
theorem fd{r t1 t2 t3:Nat}(b0:r<=8+256*(8+256*(8+256*(8+256*(8+256*(8+256*(8+256*8)))))))(b1:t1<=8+256*(8+256*(8+256*(8+256*(8+256*(8+256*8))))))(b2:t2<=8+256*(8+256*(8+256*(8+256*(8+256*8)))))(b3:t3<=8+256*(8+256*(8+256*(8+256*8)))):r+t1+(t2+t3)<9223372036854775808:=by omega
theorem fe{p1 p2 p3 p4 p5 p6 t4 t5 t6 t7:Nat}(g1:p1<=8)(g2:p2<=8)(g3:p3<=8)(g4:p4<=8)(g5:p5<=8)(g6:p6<=8)(b4:t4<=8+256*(8+256*(8+256*8)))(b5:t5<=8+256*(8+256*8))(b6:t6<=8+256*8)(b7:t7<=8) :
  (p1+p2+p3+p4)+256*(p2+p3+p4+p5)+65536*(p3+p4+p5+p6)+16777216*(t4+t5+t6+t7)+(t5+t6+t7)<36028797018963968:=by omega
theorem ff{p0 p1 p2 p3 p4 p5 p6 p7 t4 t5 t6 t7:Nat}(e4:t4=p4+256*t5)(e5:t5=p5+256*t6)(e6:t6=p6+256*t7)(e7:t7=p7) :
  ((p0+p1+p2+p3)+256*(p1+p2+p3+p4)+65536*(p2+p3+p4+p5)+16777216*(p3+p4+p5+p6))+4294967296*(t4+t5+t6+t7)+(t4+t5+t6+t7) =
   (p0+p1+p2+p3+p4+p5+p6+p7)+256*((p1+p2+p3+p4)+256*(p2+p3+p4+p5)+65536*(p3+p4+p5+p6)+16777216*(t4+t5+t6+t7)+(t5+t6+t7)):=by
 have h:t4+t5+t6+t7=(p4+p5+p6+p7)+256*(t5+t6+t7):=by omega
 generalize t4+t5+t6+t7=s at *
 clear e4 e5 e6 e7
 omega
theorem j2{p0 p1 p2 p3 p4 p5 p6 p7 r t1 t2 t3 t4 t5 t6 t7:Nat}(g0:p0<=8)(g1:p1<=8)(g2:p2<=8)(g3:p3<=8)(g4:p4<=8)(g5:p5<=8)(g6:p6<=8)(g7:p7<=8)
  (e0:r=p0+256*t1) (e1:t1=p1+256*t2) (e2:t2=p2+256*t3) (e3:t3=p3+256*t4) (e4:t4=p4+256*t5) (e5:t5=p5+256*t6) (e6:t6=p6+256*t7) (e7:t7=p7) :
  r+r/256<9223372036854775808/\(r+r/256)+(r+r/256)/65536<9223372036854775808/\∃K,K<36028797018963968/\((r+r/256)+(r+r/256)/65536)+((r+r/256)+(r+r/256)/65536)/4294967296=(p0+p1+p2+p3+p4+p5+p6+p7)+256*K:=by
 have b7:t7<=8:=by rw[e7];exact g7
 have b6:=wo e6 g6 b7
 have b5:=wo e5 g5 b6
 have b4:=wo e4 g4 b5
 have b3:=wo e3 g3 b4
 have b2:=wo e2 g2 b3
 have b1:=wo e1 g1 b2
 have b0:=wo e0 g0 b1
 have f4:r+t1=((p0+p1)+256*(p1+p2))+65536*(t2+t3):=fa e0 e1 e2
 have c4:(p0+p1)+256*(p1+p2)<65536:=ca g0 g1 g2
 have f5:r+t1+(t2+t3)=((p0+p1+p2+p3)+256*(p1+p2+p3+p4)+65536*(p2+p3+p4+p5)+16777216*(p3+p4+p5+p6))+4294967296*(t4+t5+t6+t7):=fb f4 e2 e3 e4 e5 e6
 have c5:=cb g0 g1 g2 g3 g4 g5 g6
 rw[aBn (Nat.lt_of_le_of_lt g0 (by decide)) e0,aBC c4 f4,aBM c5 f5]
 refine⟨fc b0 b1,fd b0 b1 b2 b3,(p1+p2+p3+p4)+256*(p2+p3+p4+p5)+65536*(p3+p4+p5+p6)+16777216*(t4+t5+t6+t7)+(t5+t6+t7),?_,?_⟩
 ·exact fe g1 g2 g3 g4 g5 g6 b4 b5 b6 b7
 ·rw[f5];exact ff e4 e5 e6 e7
end

/- Bits, the second part. -/
section
open Go Go.RowKit
theorem y0{c K:Nat}(hc:c<=64)(hK:K<36028797018963968):pT .i64 (IntKind.i64.wrap ((c+256*K:Nat):Int)) 127=(c:Int):=by
 rw[wrap_i64 (by omega) (by omega)]
 unfold pT
 have h1:(BitVec.ofInt IntKind.i64.bits ((c+256*K:Nat):Int)).toNat=c+256*K:=by
  show(BitVec.ofInt 64 ((c+256*K:Nat):Int)).toNat=_
  rw[BitVec.toNat_ofInt]
  omega
 have h2:(BitVec.ofInt IntKind.i64.bits 127).toNat=127:=by decide
 rw[BitVec.toNat_and,h1,h2,show(127:Nat)=2^7-1 from rfl,Nat.and_two_pow_sub_one_eq_mod]
 have h3:(c+256*K)%2^7=c:=by omega
 rw[h3]
 exact wrap_i64 (by omega) (by omega)
theorem wY{n:Nat}(hn:n<18446744073709551616):yN (n:Int)=((gH n 64:Nat):Int):=by
 obtain⟨r,h1,ps,h2,h3,h4,h5⟩:=Fv 8 n hn
 obtain⟨q1,q2,_⟩:=h1 _ rfl
 match ps,h2 with
 | [p0,p1,p2,p3,p4,p5,p6,p7],_ =>
  simp only[List.mem_cons,List.not_mem_nil,or_false,forall_eq_or_imp,forall_eq] at h3
  simp only[List.foldr_cons,List.foldr_nil] at h4
  simp only[List.sum_cons,List.sum_nil] at h5
  obtain⟨g0,g1,g2,g3,g4,g5,g6,g7⟩:=h3
  have b5:kD 1 6148914691236517205 n<18446744073709551616:=by
   unfold kD
   have h1:(n >>> 1) &&& 6148914691236517205<=6148914691236517205:=Nat.and_le_right
   have h2:n &&& 6148914691236517205<=6148914691236517205:=Nat.and_le_right
   omega
  have e1:∀m:Nat,m<18446744073709551616->IntKind.u64.wrap (pT .u64 (pR .u64 (m:Int) 1) 6148914691236517205+pT .u64 (m:Int) 6148914691236517205)=((kD 1 6148914691236517205 m:Nat):Int):=λ m hm=>by
   have hs:m >>> 1<18446744073709551616:=Nat.lt_of_le_of_lt (Nat.shiftRight_le _ _) hm
   have r1:pR .u64 (m:Int) 1=((m >>> 1:Nat):Int):=pZ (i:=1) (by decide)
   have a1:pT .u64 ((m >>> 1:Nat):Int) 6148914691236517205=(((m >>> 1) &&& 6148914691236517205:Nat):Int):=pF hs (m:=6148914691236517205) (by decide)
   have a2:pT .u64 (m:Int) 6148914691236517205=((m &&& 6148914691236517205:Nat):Int):=pF hm (m:=6148914691236517205) (by decide)
   rw[r1,a1,a2,<- Int.natCast_add]
   refine mL ?_
   have h1:(m >>> 1) &&& 6148914691236517205<=6148914691236517205:=Nat.and_le_right
   have h2:m &&& 6148914691236517205<=6148914691236517205:=Nat.and_le_right
   omega
  have e2:∀m:Nat,m<18446744073709551616->IntKind.u64.wrap (pT .u64 (pR .u64 (m:Int) 2) 3689348814741910323+pT .u64 (m:Int) 3689348814741910323)=((kD 2 3689348814741910323 m:Nat):Int):=λ m hm=>by
   have hs:m >>> 2<18446744073709551616:=Nat.lt_of_le_of_lt (Nat.shiftRight_le _ _) hm
   have r1:pR .u64 (m:Int) 2=((m >>> 2:Nat):Int):=pZ (i:=2) (by decide)
   have a1:pT .u64 ((m >>> 2:Nat):Int) 3689348814741910323=(((m >>> 2) &&& 3689348814741910323:Nat):Int):=pF hs (m:=3689348814741910323) (by decide)
   have a2:pT .u64 (m:Int) 3689348814741910323=((m &&& 3689348814741910323:Nat):Int):=pF hm (m:=3689348814741910323) (by decide)
   rw[r1,a1,a2,<- Int.natCast_add]
   refine mL ?_
   have h1:(m >>> 2) &&& 3689348814741910323<=3689348814741910323:=Nat.and_le_right
   have h2:m &&& 3689348814741910323<=3689348814741910323:=Nat.and_le_right
   omega
  have m5:rJ 85 8=6148914691236517205:=by decide
  have m3:rJ 51 8=3689348814741910323:=by decide
  have mf:rJ 15 8=1085102592571150095:=by decide
  rw[m5,m3] at q1 q2
  rw[mf] at q1
  unfold yN
  simp only[]
  rw[e1 n hn,e2 _ b5]
  generalize kD 2 3689348814741910323 (kD 1 6148914691236517205 n)=Q at *
  have hQ:Q<18446744073709551616:=q2
  have hr:r<18446744073709551616:=by rw[<- q1];exact Nat.lt_of_le_of_lt Nat.and_le_right (by decide)
  have e3:pT .u64 (IntKind.u64.wrap (pR .u64 (Q:Int) 4+(Q:Int))) 1085102592571150095=(r:Int):=by
   have r1:pR .u64 (Q:Int) 4=((Q >>> 4:Nat):Int):=pZ (i:=4) (by decide)
   rw[r1,<- Int.natCast_add]
   have h2:IntKind.u64.wrap ((Q >>> 4+Q:Nat):Int)=(((Q >>> 4+Q)%18446744073709551616:Nat):Int):=by
    have:IntKind.u64.wrap ((Q >>> 4+Q:Nat):Int)=((Q >>> 4+Q:Nat):Int)%18446744073709551616:=by simp[IntKind.wrap,IntKind.signed,IntKind.bits]
    rw[this];omega
   rw[h2]
   have a1:=pF (n:=(Q >>> 4+Q)%18446744073709551616) (m:=1085102592571150095) (Nat.mod_lt _ (by decide)) (by decide)
   refine a1.trans ?_
   rw[<- q1]
   congr 1
   refine Nat.eq_of_testBit_eq λ i=>?_
   rw[Nat.testBit_and,Nat.testBit_and,show(18446744073709551616:Nat)=2^64 from rfl,Nat.testBit_mod_two_pow]
   by_cases hi:i<64
   ·simp[hi]
   ·have:(1085102592571150095:Nat).testBit i=false:=Nat.testBit_lt_two_pow (Nat.lt_of_lt_of_le (by decide:(1085102592571150095:Nat)<2^64) (Nat.pow_le_pow_right (by decide) (by omega)))
    rw[this];simp
  rw[e3]
  have s1:∀m:Nat,pR .u64 (m:Int) 8=((m/256:Nat):Int):=λ m=>by
   have:pR .u64 (m:Int) 8=((m >>> 8:Nat):Int):=pZ (i:=8) (by decide)
   rw[this,Nat.shiftRight_eq_div_pow]
  have s2:∀m:Nat,pR .u64 (m:Int) 16=((m/65536:Nat):Int):=λ m=>by
   have:pR .u64 (m:Int) 16=((m >>> 16:Nat):Int):=pZ (i:=16) (by decide)
   rw[this,Nat.shiftRight_eq_div_pow]
  have s3:∀m:Nat,pR .u64 (m:Int) 32=((m/4294967296:Nat):Int):=λ m=>by
   have:pR .u64 (m:Int) 32=((m >>> 32:Nat):Int):=pZ (i:=32) (by decide)
   rw[this,Nat.shiftRight_eq_div_pow]
  have w64:∀m:Nat,m<9223372036854775808->IntKind.u64.wrap ((m:Nat):Int)=(m:Int):=λ m hm=>mL (by omega)
  have hs:gH n 64=p0+p1+p2+p3+p4+p5+p6+p7:=by rw[show(64:Nat)=8*8 from rfl,<- h5];omega
  have hc:=Gl n 64
  have hx:=j2 (t7:=p7) (t6:=p6+256*p7) (t5:=p5+256*(p6+256*p7)) (t4:=p4+256*(p5+256*(p6+256*p7))) (t3:=p3+256*(p4+256*(p5+256*(p6+256*p7)))) (t2:=p2+256*(p3+256*(p4+256*(p5+256*(p6+256*p7))))) (t1:=p1+256*(p2+256*(p3+256*(p4+256*(p5+256*(p6+256*p7)))))) (r:=r) g0 g1 g2 g3 g4 g5 g6 g7 (by rw[h4];rfl) rfl rfl rfl rfl rfl rfl rfl
  clear h4 q1 q2 e3 e1 e2 b5 h1 hr hQ hn m5 m3 mf h5
  obtain⟨x4,x5,K,hK,x6⟩:=hx
  rw[s1,<- Int.natCast_add,w64 _ x4,s2,<- Int.natCast_add,w64 _ x5,s3,<- Int.natCast_add,x6,<- hs,w64 _ (by omega)]
  exact y0 hc hK
end

/- The functions on bitmaps. -/
section
open Go Go.RowKit
def pI(n:Nat)(i:Int):Bool:=decide (0<=i)&&(decide (i<64)&&n.testBit i.toNat)
theorem ob(n:Nat){i:Int}(h:i<0):pI n i=false:=by simp[pI];omega
theorem Uk(n:Nat){i:Int}(h:64<=i):pI n i=false:=by simp[pI];omega
theorem Ab(n:Nat){i:Int}(h0:0<=i)(h1:i<64):pI n i=n.testBit i.toNat:=by simp[pI,h0,h1]
theorem mb{n:Nat}(hn:n<18446744073709551616){i:Int}(h0:0<=i)(h1:i<64):(pT .u64 (pR .u64 (n:Int) i) 1==1)=pI n i:=by
 obtain⟨k,rfl⟩:=Int.eq_ofNat_of_zero_le h0
 rw[Ab n h0 h1,pZ (by omega)]
 have h2:pT .u64 ((n >>> k:Nat):Int) 1=(((n >>> k) &&& 1:Nat):Int):=pF (Nat.lt_of_le_of_lt (Nat.shiftRight_le _ _) hn) (m:=1) (by decide)
 rw[h2]
 simp only[Int.toNat_natCast,Nat.testBit,Nat.and_comm 1]
 rw[Nat.and_one_is_mod]
 rcases Nat.mod_two_eq_zero_or_one (n >>> k) with h|h<;>rw[h]<;>rfl
def rC(n:Nat)(i:Int):Nat:=gH n (min i.toNat 64)
def dM(n:Nat)(i:Int):Nat:=if 0<=i/\i<64 then n ||| 2^i.toNat else n
def vT(n:Nat)(i:Int):Nat:=if 0<=i/\i<64 then n ^^^ (n &&& 2^i.toNat) else n
theorem Zc{n:Nat}(hn:n<18446744073709551616){i:Int}(h0:0<=i)(h1:i<64):rOr .u64 (n:Int) (kv .u64 1 i)=((dM n i:Nat):Int):=by
 obtain⟨k,rfl⟩:=Int.eq_ofNat_of_zero_le h0
 have hp:=Nat.pow_lt_pow_right (a:=2) (by decide) (show k<64 by omega)
 rw[ko (by omega),og hn (by omega),dM,if_pos ⟨h0,h1⟩]
 rfl
theorem Ad{n:Nat}(hn:n<18446744073709551616)(i:Int):dM n i<18446744073709551616:=by
 unfold dM
 split
 ·rename_i h
  have hp:=Nat.pow_lt_pow_right (a:=2) (by decide) (show i.toNat<64 by omega)
  exact Nat.or_lt_two_pow (n:=64) hn hp
 ·exact hn
end
end Go.Ct
namespace Go.Proofs.YtbajmaoegmbfgaaGreat
section
open Go.RowKit Go.Ct
theorem Pa{n:Nat}(hn:n<18446744073709551616)(i:Int)(w:World):Calls Tryz.prog 195 #[.int .u64 (n:Int),.int .i64 i] w λ e w'=>e=.returned (.bool (pI n i))/\St w [] [] w':=by
 refine enter Tryz.func195 Tryz.ntmps195 rfl rfl (SF.s0 w) ?_
 simp only[bX]
 refine cR ?_;refine J2 ?_;refine nI ?_;refine aA ?_
 (refine eI 7 (λ g7=>?_) (λ g7=>?_)<;>(first|refine aJ ?_|(refine aF ?_;refine aA ?_)))
 all_goals (refine sf ?_;refine aA ?_)
 all_goals (first|refine aJ ?_|(refine eI 11 (λ g11=>?_) (λ g11=>?_)<;>(first|refine aJ ?_|(refine aF ?_;refine aA ?_))))
 all_goals ((first|refine aJ ?_|(refine aF ?_;refine aA ?_));(first|refine aJ ?_|(refine aF ?_;refine mT ?_));(first|refine aJ ?_|(refine aF ?_;refine E6 ?_));(first|refine aJ ?_|(refine aF ?_;refine Gz ?_));refine wW ?_;refine J1 ?_)
 all_goals
 refine aR Tryz.results195 (λ w hw=>?_)
 first|(rw[ob n (by omega)];exact⟨rfl,hw.done⟩)|(rw[Uk n (by omega)];exact⟨rfl,hw.done⟩)|(rw[<- mb hn (by omega) (by omega)];exact⟨rfl,hw.done⟩)
theorem Pb{n:Nat}(hn:n<18446744073709551616)(i:Int)(w:World):Calls Tryz.prog 207 #[.int .u64 (n:Int),.int .i64 i] w λ e w'=>e=.returned (.int .i64 ((rC n i:Nat):Int))/\St w [] [] w':=by
 refine enter Tryz.func207 Tryz.ntmps207 rfl rfl (SF.s0 w) ?_
 simp only[bX]
 refine cR ?_;refine Il ?_;refine En ?_
 refine fN [5,6,7,8,9,10,11,12,13,14,15,16,17,18,19,20] (λ k=>[(5,.int .i64 ((gH n k:Nat):Int)),(6,.int .i64 ((k:Nat):Int))]) (λ k=>k<=64/\(k:Int)<=max i 0) (λ k=>64-k) (0) (⟨by decide,by omega⟩) ?_ (λ k f hx=>?_)
 ·repeat (first|exact bJ _|refine bE (by exact rfl) ?_)
 dsimp only[gP,List.map,List.cons_append,List.nil_append]
 have hcl:=Gl n k
 refine kY ?_;refine Ce ?_
 (refine eI 9 (λ g9=>?_) (λ g9=>?_)<;>(first|refine aJ ?_|(refine aF ?_;refine aA ?_)))
 all_goals ((first|refine aJ ?_|(refine aF ?_;refine aA ?_));refine sf ?_;refine aG ?_)
 all_goals
 refine bC (λ c13=>?_) (λ c13=>?_)
 ·try exact nv c13
  all_goals (refine qG ?_;refine jA ?_;refine aP (cV (hc:=λ w1 hw=>Pa hn (k:Int) w1)) (λ x18=>?_);refine aG ?_)
  all_goals
   refine bC (λ c18=>?_) (λ c18=>?_)
   ·refine xV ?_;refine fC ?_;refine xV ?_
    refine eJ (k+1) ?_ ?_ ?_
    ·omega
    ·repeat' (first|exact bJ _|refine bE ?_ ?_)
     all_goals (first|exact rfl|(rw[Ab n (by omega) (by omega),Int.toNat_natCast] at *;conv=>{lhs;whnf};congr 2;simp only[gH];simp_all;done))
    ·omega
   ·refine oF ?_;refine xV ?_
    refine eJ (k+1) ?_ ?_ ?_
    ·omega
    ·repeat' (first|exact bJ _|refine bE ?_ ?_)
     all_goals (first|exact rfl|(rw[Ab n (by omega) (by omega),Int.toNat_natCast] at *;conv=>{lhs;whnf};congr 2;simp only[gH];simp_all;done))
    ·omega
 ·all_goals (refine bO rfl ?_;refine J2 ?_;refine J1 ?_)
  all_goals
   refine aR Tryz.results207 (λ w hw=>?_)
   have:rC n i=gH n k:=by unfold rC;congr 1;omega
   rw[this]
   exact⟨rfl,hw.done⟩
theorem Rg{n:Nat}(hn:n<18446744073709551616)(w:World):Calls Tryz.prog 170 #[.int .u64 (n:Int)] w λ e w'=>e=.returned (.int .i64 ((gH n 64:Nat):Int))/\St w [] [] w':=by
 refine enter Tryz.func170 Tryz.ntmps170 rfl rfl (SF.s0 w) ?_
 simp only[bX]
 refine cR ?_;refine J2 ?_;refine aP (cV (hc:=λ w1 hw=>Pb hn 64 w1)) (λ x4=>?_);refine J1 ?_
 refine aR Tryz.results170 (λ w hw=>?_)
 exact⟨rfl,hw.done⟩
theorem mV{n:Nat}(hn:n<18446744073709551616)(i:Int)(w:World):Calls Tryz.prog 254 #[.int .u64 (n:Int),.int .i64 i] w λ e w'=>e=.returned (.int .u64 ((dM n i:Nat):Int))/\St w [] [] w':=by
 refine enter Tryz.func254 Tryz.ntmps254 rfl rfl (SF.s0 w) ?_
 simp only[bX]
 refine cR ?_;refine kY ?_;refine Ce ?_
 (refine eI 7 (λ g7=>?_) (λ g7=>?_)<;>(first|refine aJ ?_|(refine aF ?_;refine aA ?_)))
 all_goals (refine B7 ?_;refine aG ?_)
 all_goals
 refine bC (λ c10=>?_) (λ c10=>?_)
 ·all_goals (refine J2 ?_;refine J1 ?_)
  all_goals
   refine aR Tryz.results254 (λ w hw=>?_)
   (rw[show dM n i=n by unfold dM;rw[if_neg (by omega)]];exact⟨rfl,hw.done⟩)
 ·try exact nv c10
  all_goals (refine Dc ?_;refine mT ?_;refine z4 ?_;refine aBo ?_;refine J1 ?_)
  all_goals
   refine aR Tryz.results254 (λ w hw=>?_)
   (rw[<- Zc hn (by omega) (by omega)];exact⟨rfl,hw.done⟩)
end

end Go.Proofs.YtbajmaoegmbfgaaGreat
