/- The last step of OnesCount64: numbers alone. -/
import Derived.Test.YtnilhhnfjfdokaaGreatDoorGMem
import Derived.Test.YtnilhhnfjfdokaaGreatDoorGPa2
import Derived.Test.YtnilhhnfjfdokaaGreatDoorGNode4

set_option linter.unusedSimpArgs false
set_option linter.unusedVariables false
namespace Go.Ct
section
theorem pq{x a b:Nat}(ha:a<256)(h:x=a+256*b):x/256=b:=by omega
theorem q6{x a b:Nat}(ha:a<65536)(h:x=a+65536*b):x/65536=b:=by omega
theorem qs{x a b:Nat}(ha:a<4294967296)(h:x=a+4294967296*b):x/4294967296=b:=by omega
theorem gp{t p s B:Nat}(e:t=p+256*s)(hp:p<=8)(hs:s<=B):t<=8+256*B:=by omega
theorem fa{r t1 t2 t3 p0 p1 p2:Nat}(e0:r=p0+256*t1)(e1:t1=p1+256*t2)(e2:t2=p2+256*t3):r+t1=((p0+p1)+256*(p1+p2))+65536*(t2+t3):=by omega
theorem ca{p0 p1 p2:Nat}(g0:p0<=8)(g1:p1<=8)(g2:p2<=8):(p0+p1)+256*(p1+p2)<65536:=by omega
theorem sa{t2 t3 t4 t5 t6 t7 p2 p3 p4 p5 p6:Nat}(e2:t2=p2+256*t3)(e3:t3=p3+256*t4)(e4:t4=p4+256*t5)(e5:t5=p5+256*t6)(e6:t6=p6+256*t7):t2+t3+t4+t5=(p2+p3+p4+p5)+256*(p3+p4+p5+p6)+65536*(t4+t5+t6+t7):=by
 subst e6
 omega
theorem fb{r t1 t2 t3 t4 t5 t6 t7 p0 p1 p2 p3 p4 p5 p6:Nat}(f4:r+t1=((p0+p1)+256*(p1+p2))+65536*(t2+t3))(e2:t2=p2+256*t3)(e3:t3=p3+256*t4)(e4:t4=p4+256*t5)(e5:t5=p5+256*t6)(e6:t6=p6+256*t7) :
  r+t1+(t2+t3)=((p0+p1+p2+p3)+256*(p1+p2+p3+p4)+65536*(p2+p3+p4+p5)+16777216*(p3+p4+p5+p6))+4294967296*(t4+t5+t6+t7):=by
 have h1:=sa e2 e3 e4 e5 e6
 have h2:t2+t3=(p2+p3)+256*(t3+t4):=by clear h1 f4 e4 e5 e6;omega
 have h3:t3+t4=(p3+p4)+256*(t4+t5):=by clear h1 h2 f4 e2 e5 e6;omega
 clear e2 e3 e4 e5 e6
 omega
theorem cb{p0 p1 p2 p3 p4 p5 p6:Nat}(g0:p0<=8)(g1:p1<=8)(g2:p2<=8)(g3:p3<=8)(g4:p4<=8)(g5:p5<=8)(g6:p6<=8):(p0+p1+p2+p3)+256*(p1+p2+p3+p4)+65536*(p2+p3+p4+p5)+16777216*(p3+p4+p5+p6)<4294967296:=by omega
theorem fc{r t1:Nat}(b0:r<=8+256*(8+256*(8+256*(8+256*(8+256*(8+256*(8+256*8)))))))(b1:t1<=8+256*(8+256*(8+256*(8+256*(8+256*(8+256*8)))))):r+t1<9223372036854775808:=by omega
theorem fd{r t1 t2 t3:Nat}(b0:r<=8+256*(8+256*(8+256*(8+256*(8+256*(8+256*(8+256*8)))))))(b1:t1<=8+256*(8+256*(8+256*(8+256*(8+256*(8+256*8))))))(b2:t2<=8+256*(8+256*(8+256*(8+256*(8+256*8)))))(b3:t3<=8+256*(8+256*(8+256*(8+256*8)))):r+t1+(t2+t3)<9223372036854775808:=by omega
theorem fe{p1 p2 p3 p4 p5 p6 t4 t5 t6 t7:Nat}(g1:p1<=8)(g2:p2<=8)(g3:p3<=8)(g4:p4<=8)(g5:p5<=8)(g6:p6<=8)(b4:t4<=8+256*(8+256*(8+256*8)))(b5:t5<=8+256*(8+256*8))(b6:t6<=8+256*8)(b7:t7<=8) :
  (p1+p2+p3+p4)+256*(p2+p3+p4+p5)+65536*(p3+p4+p5+p6)+16777216*(t4+t5+t6+t7)+(t5+t6+t7)<36028797018963968:=by omega
theorem ff{p0 p1 p2 p3 p4 p5 p6 p7 t4 t5 t6 t7:Nat}(e4:t4=p4+256*t5)(e5:t5=p5+256*t6)(e6:t6=p6+256*t7)(e7:t7=p7) :
  ((p0+p1+p2+p3)+256*(p1+p2+p3+p4)+65536*(p2+p3+p4+p5)+16777216*(p3+p4+p5+p6))+4294967296*(t4+t5+t6+t7)+(t4+t5+t6+t7) =
   (p0+p1+p2+p3+p4+p5+p6+p7)+256*((p1+p2+p3+p4)+256*(p2+p3+p4+p5)+65536*(p3+p4+p5+p6)+16777216*(t4+t5+t6+t7)+(t5+t6+t7)):=by
 have h:t4+t5+t6+t7=(p4+p5+p6+p7)+256*(t5+t6+t7):=by omega
 generalize t4+t5+t6+t7=s at *
 clear e4 e5 e6 e7
 omega
theorem Rl{p0 p1 p2 p3 p4 p5 p6 p7 r t1 t2 t3 t4 t5 t6 t7:Nat}(g0:p0<=8)(g1:p1<=8)(g2:p2<=8)(g3:p3<=8)(g4:p4<=8)(g5:p5<=8)(g6:p6<=8)(g7:p7<=8)
  (e0:r=p0+256*t1) (e1:t1=p1+256*t2) (e2:t2=p2+256*t3) (e3:t3=p3+256*t4) (e4:t4=p4+256*t5) (e5:t5=p5+256*t6) (e6:t6=p6+256*t7) (e7:t7=p7) :
  r+r/256<9223372036854775808/\(r+r/256)+(r+r/256)/65536<9223372036854775808/\∃K,K<36028797018963968/\((r+r/256)+(r+r/256)/65536)+((r+r/256)+(r+r/256)/65536)/4294967296=(p0+p1+p2+p3+p4+p5+p6+p7)+256*K:=by
 have b7:t7<=8:=by rw[e7];exact g7
 have b6:=gp e6 g6 b7
 have b5:=gp e5 g5 b6
 have b4:=gp e4 g4 b5
 have b3:=gp e3 g3 b4
 have b2:=gp e2 g2 b3
 have b1:=gp e1 g1 b2
 have b0:=gp e0 g0 b1
 have f4:r+t1=((p0+p1)+256*(p1+p2))+65536*(t2+t3):=fa e0 e1 e2
 have c4:(p0+p1)+256*(p1+p2)<65536:=ca g0 g1 g2
 have f5:r+t1+(t2+t3)=((p0+p1+p2+p3)+256*(p1+p2+p3+p4)+65536*(p2+p3+p4+p5)+16777216*(p3+p4+p5+p6))+4294967296*(t4+t5+t6+t7):=fb f4 e2 e3 e4 e5 e6
 have c5:=cb g0 g1 g2 g3 g4 g5 g6
 rw[pq (Nat.lt_of_le_of_lt g0 (by decide)) e0,q6 c4 f4,qs c5 f5]
 refine⟨fc b0 b1,fd b0 b1 b2 b3,(p1+p2+p3+p4)+256*(p2+p3+p4+p5)+65536*(p3+p4+p5+p6)+16777216*(t4+t5+t6+t7)+(t5+t6+t7),?_,?_⟩
 ·exact fe g1 g2 g3 g4 g5 g6 b4 b5 b6 b7
 ·rw[f5];exact ff e4 e5 e6 e7
end

/- Bits, the second part. -/
section
open Go Go.RowKit
theorem ia{c K:Nat}(hc:c<=64)(hK:K<36028797018963968):lJ .i64 (IntKind.i64.wrap ((c+256*K:Nat):Int)) 127=(c:Int):=by
 rw[wrap_i64 (by omega) (by omega)]
 unfold lJ
 have h1:(BitVec.ofInt IntKind.i64.bits ((c+256*K:Nat):Int)).toNat=c+256*K:=by
  show(BitVec.ofInt 64 ((c+256*K:Nat):Int)).toNat=_
  rw[BitVec.toNat_ofInt]
  omega
 have h2:(BitVec.ofInt IntKind.i64.bits 127).toNat=127:=by decide
 rw[BitVec.toNat_and,h1,h2,show(127:Nat)=2^7-1 from rfl,Nat.and_two_pow_sub_one_eq_mod]
 have h3:(c+256*K)%2^7=c:=by omega
 rw[h3]
 exact wrap_i64 (by omega) (by omega)
theorem rO{n:Nat}(hn:n<18446744073709551616):yP (n:Int)=((iH n 64:Nat):Int):=by
 obtain⟨r,h1,ps,h2,h3,h4,h5⟩:=Bt 8 n hn
 obtain⟨q1,q2,_⟩:=h1 _ rfl
 match ps,h2 with
 | [p0,p1,p2,p3,p4,p5,p6,p7],_ =>
  simp only[List.mem_cons,List.not_mem_nil,or_false,forall_eq_or_imp,forall_eq] at h3
  simp only[List.foldr_cons,List.foldr_nil] at h4
  simp only[List.sum_cons,List.sum_nil] at h5
  obtain⟨g0,g1,g2,g3,g4,g5,g6,g7⟩:=h3
  have b5:jJ 1 6148914691236517205 n<18446744073709551616:=by
   unfold jJ
   have h1:(n >>> 1) &&& 6148914691236517205<=6148914691236517205:=Nat.and_le_right
   have h2:n &&& 6148914691236517205<=6148914691236517205:=Nat.and_le_right
   omega
  have e1:∀m:Nat,m<18446744073709551616->IntKind.u64.wrap (lJ .u64 (lG .u64 (m:Int) 1) 6148914691236517205+lJ .u64 (m:Int) 6148914691236517205)=((jJ 1 6148914691236517205 m:Nat):Int):=λ m hm=>by
   have hs:m >>> 1<18446744073709551616:=Nat.lt_of_le_of_lt (Nat.shiftRight_le _ _) hm
   have r1:lG .u64 (m:Int) 1=((m >>> 1:Nat):Int):=lA (i:=1) (by decide)
   have a1:lJ .u64 ((m >>> 1:Nat):Int) 6148914691236517205=(((m >>> 1) &&& 6148914691236517205:Nat):Int):=lE hs (m:=6148914691236517205) (by decide)
   have a2:lJ .u64 (m:Int) 6148914691236517205=((m &&& 6148914691236517205:Nat):Int):=lE hm (m:=6148914691236517205) (by decide)
   rw[r1,a1,a2,<- Int.natCast_add]
   refine kB ?_
   have h1:(m >>> 1) &&& 6148914691236517205<=6148914691236517205:=Nat.and_le_right
   have h2:m &&& 6148914691236517205<=6148914691236517205:=Nat.and_le_right
   omega
  have e2:∀m:Nat,m<18446744073709551616->IntKind.u64.wrap (lJ .u64 (lG .u64 (m:Int) 2) 3689348814741910323+lJ .u64 (m:Int) 3689348814741910323)=((jJ 2 3689348814741910323 m:Nat):Int):=λ m hm=>by
   have hs:m >>> 2<18446744073709551616:=Nat.lt_of_le_of_lt (Nat.shiftRight_le _ _) hm
   have r1:lG .u64 (m:Int) 2=((m >>> 2:Nat):Int):=lA (i:=2) (by decide)
   have a1:lJ .u64 ((m >>> 2:Nat):Int) 3689348814741910323=(((m >>> 2) &&& 3689348814741910323:Nat):Int):=lE hs (m:=3689348814741910323) (by decide)
   have a2:lJ .u64 (m:Int) 3689348814741910323=((m &&& 3689348814741910323:Nat):Int):=lE hm (m:=3689348814741910323) (by decide)
   rw[r1,a1,a2,<- Int.natCast_add]
   refine kB ?_
   have h1:(m >>> 2) &&& 3689348814741910323<=3689348814741910323:=Nat.and_le_right
   have h2:m &&& 3689348814741910323<=3689348814741910323:=Nat.and_le_right
   omega
  have m5:C8 85 8=6148914691236517205:=by decide
  have m3:C8 51 8=3689348814741910323:=by decide
  have mf:C8 15 8=1085102592571150095:=by decide
  rw[m5,m3] at q1 q2
  rw[mf] at q1
  unfold yP
  simp only[]
  rw[e1 n hn,e2 _ b5]
  generalize jJ 2 3689348814741910323 (jJ 1 6148914691236517205 n)=Q at *
  have hQ:Q<18446744073709551616:=q2
  have hr:r<18446744073709551616:=by rw[<- q1];exact Nat.lt_of_le_of_lt Nat.and_le_right (by decide)
  have e3:lJ .u64 (IntKind.u64.wrap (lG .u64 (Q:Int) 4+(Q:Int))) 1085102592571150095=(r:Int):=by
   have r1:lG .u64 (Q:Int) 4=((Q >>> 4:Nat):Int):=lA (i:=4) (by decide)
   rw[r1,<- Int.natCast_add]
   have h2:IntKind.u64.wrap ((Q >>> 4+Q:Nat):Int)=(((Q >>> 4+Q)%18446744073709551616:Nat):Int):=by
    have:IntKind.u64.wrap ((Q >>> 4+Q:Nat):Int)=((Q >>> 4+Q:Nat):Int)%18446744073709551616:=by simp[IntKind.wrap,IntKind.signed,IntKind.bits]
    rw[this];omega
   rw[h2]
   have a1:=lE (n:=(Q >>> 4+Q)%18446744073709551616) (m:=1085102592571150095) (Nat.mod_lt _ (by decide)) (by decide)
   refine a1.trans ?_
   rw[<- q1]
   congr 1
   refine Nat.eq_of_testBit_eq λ i=>?_
   rw[Nat.testBit_and,Nat.testBit_and,show(18446744073709551616:Nat)=2^64 from rfl,Nat.testBit_mod_two_pow]
   by_cases hi:i<64
   ·simp[hi]
   ·have:(1085102592571150095:Nat).testBit i=false:=Nat.testBit_lt_two_pow (Nat.lt_of_lt_of_le (by decide:(1085102592571150095:Nat)<2^64) (Nat.pow_le_pow_right (by decide) (by omega)))
    rw[this];simp
  rw[e3]
  have s1:∀m:Nat,lG .u64 (m:Int) 8=((m/256:Nat):Int):=λ m=>by
   have:lG .u64 (m:Int) 8=((m >>> 8:Nat):Int):=lA (i:=8) (by decide)
   rw[this,Nat.shiftRight_eq_div_pow]
  have s2:∀m:Nat,lG .u64 (m:Int) 16=((m/65536:Nat):Int):=λ m=>by
   have:lG .u64 (m:Int) 16=((m >>> 16:Nat):Int):=lA (i:=16) (by decide)
   rw[this,Nat.shiftRight_eq_div_pow]
  have s3:∀m:Nat,lG .u64 (m:Int) 32=((m/4294967296:Nat):Int):=λ m=>by
   have:lG .u64 (m:Int) 32=((m >>> 32:Nat):Int):=lA (i:=32) (by decide)
   rw[this,Nat.shiftRight_eq_div_pow]
  have w64:∀m:Nat,m<9223372036854775808->IntKind.u64.wrap ((m:Nat):Int)=(m:Int):=λ m hm=>kB (by omega)
  have hs:iH n 64=p0+p1+p2+p3+p4+p5+p6+p7:=by rw[show(64:Nat)=8*8 from rfl,<- h5];omega
  have hc:=Gi n 64
  have hx:=Rl (t7:=p7) (t6:=p6+256*p7) (t5:=p5+256*(p6+256*p7)) (t4:=p4+256*(p5+256*(p6+256*p7))) (t3:=p3+256*(p4+256*(p5+256*(p6+256*p7)))) (t2:=p2+256*(p3+256*(p4+256*(p5+256*(p6+256*p7))))) (t1:=p1+256*(p2+256*(p3+256*(p4+256*(p5+256*(p6+256*p7)))))) (r:=r) g0 g1 g2 g3 g4 g5 g6 g7 (by rw[h4];rfl) rfl rfl rfl rfl rfl rfl rfl
  clear h4 q1 q2 e3 e1 e2 b5 h1 hr hQ hn m5 m3 mf h5
  obtain⟨x4,x5,K,hK,x6⟩:=hx
  rw[s1,<- Int.natCast_add,w64 _ x4,s2,<- Int.natCast_add,w64 _ x5,s3,<- Int.natCast_add,x6,<- hs,w64 _ (by omega)]
  exact ia hc hK
end

/- The functions on bitmaps. -/
section
open Go Go.RowKit
def uC(n:Nat)(i:Int):Bool:=decide (0<=i)&&(decide (i<64)&&n.testBit i.toNat)
theorem O3(n:Nat){i:Int}(h0:0<=i)(h1:i<64):uC n i=n.testBit i.toNat:=by simp[uC,h0,h1]
theorem Xa{n:Nat}(hn:n<18446744073709551616){i:Int}(h0:0<=i)(h1:i<64):(lJ .u64 (lG .u64 (n:Int) i) 1==1)=uC n i:=by
 obtain⟨k,rfl⟩:=Int.eq_ofNat_of_zero_le h0
 rw[O3 n h0 h1,lA (by omega)]
 have h2:lJ .u64 ((n >>> k:Nat):Int) 1=(((n >>> k) &&& 1:Nat):Int):=lE (Nat.lt_of_le_of_lt (Nat.shiftRight_le _ _) hn) (m:=1) (by decide)
 rw[h2]
 simp only[Int.toNat_natCast,Nat.testBit,Nat.and_comm 1]
 rw[Nat.and_one_is_mod]
 rcases Nat.mod_two_eq_zero_or_one (n >>> k) with h|h<;>rw[h]<;>rfl
def kK(n:Nat)(i:Int):Nat:=iH n (min i.toNat 64)
theorem Sw(n:Nat){i:Nat}:∀k,i<=k->iH (n &&& (2^i-1)) k=iH n i:=by
 intro k hk
 obtain⟨d,rfl⟩:=Nat.exists_eq_add_of_le hk
 clear hk
 induction d with
 | zero=>exact yA λ j hj=>by rw[Nat.testBit_and,Nat.testBit_two_pow_sub_one];simp;intro _;omega
 | succ d ih =>
  rw[<- Nat.add_assoc]
  simp only[iH,ih,Nat.testBit_and,Nat.testBit_two_pow_sub_one]
  simp
theorem Yz{n:Nat}(hn:n<18446744073709551616){i:Int}(h0:0<i)(h1:i<64):yP (lJ .u64 (n:Int) (IntKind.u64.wrap (Ht .u64 1 i-1)))=((kK n i:Nat):Int):=by
 obtain⟨k,rfl⟩:=Int.eq_ofNat_of_zero_le (Int.le_of_lt h0)
 have hp:=Nat.pow_lt_pow_right (a:=2) (by decide) (show k<64 by omega)
 have hp0:=Nat.two_pow_pos k
 rw[Ii (by omega)]
 have e:((2^k:Nat):Int)-1=((2^k-1:Nat):Int):=by omega
 rw[e,kB (by omega),lE hn (by omega),rO (Nat.lt_of_le_of_lt Nat.and_le_left hn),Sw n 64 (by omega)]
 unfold kK
 rw[Int.toNat_natCast,Nat.min_eq_left (by omega)]
def pL(n:Nat)(i:Int):Nat:=if 0<=i/\i<64 then n ||| 2^i.toNat else n
theorem Uw{n:Nat}(hn:n<18446744073709551616){i:Int}(h0:0<=i)(h1:i<64):ki .u64 (n:Int) (Ht .u64 1 i)=((pL n i:Nat):Int):=by
 obtain⟨k,rfl⟩:=Int.eq_ofNat_of_zero_le h0
 have hp:=Nat.pow_lt_pow_right (a:=2) (by decide) (show k<64 by omega)
 rw[Ii (by omega),Z6 hn (by omega),pL,if_pos ⟨h0,h1⟩]
 rfl
end
end Go.Ct
namespace Go.Proofs.YtnilhhnfjfdokaaGreatDoor
section
open Go.RowKit Go.Ct
theorem Dt(i:Int)(w:World):Calls Tryz.prog 224 #[.int .i64 i] w λ e w'=>e=.returned (.bool (decide (0<=i/\i<64)))/\St w [] [] w':=by
 refine enter Tryz.func224 Tryz.ntmps224 rfl rfl (SF.s0 w) ?_
 simp only[cP]
 refine Kd1 ?_;refine fS ?_;refine aB ?_
 (refine lN 5 (λ g5=>?_) (λ g5=>?_)<;>refine Ka5 ?_)
 all_goals (refine wU ?_;refine J1 ?_)
 all_goals
 refine bE Tryz.results224 (λ w hw=>?_)
 first|(rw[decide_eq_false (by omega)];exact⟨rfl,hw.done⟩)|(rw[show decide (0<=i/\i<64)=decide (i<64) by simp;omega];exact⟨rfl,hw.done⟩)
theorem V9{n:Nat}(hn:n<18446744073709551616)(i:Int)(w:World):Calls Tryz.prog 182 #[.int .u64 (n:Int),.int .i64 i] w λ e w'=>e=.returned (.bool (uC n i))/\St w [] [] w':=by
 refine enter Tryz.func182 Tryz.ntmps182 rfl rfl (SF.s0 w) ?_
 simp only[cP]
 refine Kd1 ?_;refine aF (cV (hc:=λ w1 hw=>Dt i w1)) (λ x6=>?_);refine aB ?_
 (refine lN 7 (λ g7=>?_) (λ g7=>?_)<;>refine Ka5 ?_)
 all_goals (refine Ka5 ?_;(first|refine aT ?_|(refine aE ?_;refine fC ?_));(first|refine aT ?_|(refine aE ?_;refine Cs ?_));(first|refine aT ?_|(refine aE ?_;refine zA ?_));refine zM ?_;refine J1 ?_)
 all_goals
 refine bE Tryz.results182 (λ w hw=>?_)
 first|(rw[<- Xa hn (by omega) (by omega)];exact⟨rfl,hw.done⟩)|(rw[show uC n i=false by simp[uC];omega];exact⟨rfl,hw.done⟩)
theorem Tm{n:Nat}(hn:n<18446744073709551616)(w:World):Calls Tryz.prog 225 #[.int .u64 (n:Int)] w λ e w'=>e=.returned (.int .i64 ((iH n 64:Nat):Int))/\St w [] [] w':=by
 rw[<- rO hn];exact F4 _ w
theorem Tc{n:Nat}(hn:n<18446744073709551616)(i:Int)(w:World):Calls Tryz.prog 183 #[.int .u64 (n:Int),.int .i64 i] w λ e w'=>e=.returned (.int .i64 ((kK n i:Nat):Int))/\St w [] [] w':=by
 refine enter Tryz.func183 Tryz.ntmps183 rfl rfl (SF.s0 w) ?_
 simp only[cP]
 refine Kb1 ?_;refine vI ?_;refine aD ?_
 refine aU (λ c6=>?_) (λ c6=>?_)
 ·refine dW ?_
  refine bE Tryz.results183 (λ w hw=>?_)
  (rw[show kK n i=0 by unfold kK;rw[show min i.toNat 64=0 by omega];rfl];exact⟨rfl,hw.done⟩)
 ·refine lS ?_;refine J2 ?_;refine fS ?_;refine aD ?_
  refine aU (λ c8=>?_) (λ c8=>?_)
  ·refine J2 ?_;(refine aF (by exact cV (hc:=λ w1 hw=>Tm hn w1)) (λ x10=>?_));refine J1 ?_
   refine bE Tryz.results183 (λ w hw=>?_)
   (rw[show kK n i=iH n 64 by unfold kK;congr 1;omega];exact⟨rfl,hw.done⟩)
  ·refine C5 ?_;refine fC ?_;refine dk ?_;refine aw ?_;refine zA ?_;(refine aF (by exact cV (hc:=λ w1 hw=>F4 (lJ .u64 (n:Int) (IntKind.u64.wrap (Ht .u64 1 i-1))) w1)) (λ x17=>?_));refine J1 ?_
   refine bE Tryz.results183 (λ w hw=>?_)
   (rw[<- Yz hn (by omega) (by omega)];exact⟨rfl,hw.done⟩)
theorem ja{n:Nat}(hn:n<18446744073709551616)(i:Int)(w:World):Calls Tryz.prog 299 #[.int .u64 (n:Int),.int .i64 i] w λ e w'=>e=.returned (.int .u64 ((pL n i:Nat):Int))/\St w [] [] w':=by
 refine enter Tryz.func299 Tryz.ntmps299 rfl rfl (SF.s0 w) ?_
 simp only[cP]
 refine Kb1 ?_;refine aF (cV (hc:=λ w1 hw=>Dt i w1)) (λ x6=>?_);refine wO ?_
 refine aU (λ c7=>?_) (λ c7=>?_)
 ·refine J2 ?_;refine J1 ?_
  refine bE Tryz.results299 (λ w hw=>?_)
  (rw[show pL n i=n by unfold pL;rw[if_neg (by omega)]];exact⟨rfl,hw.done⟩)
 ·refine C5 ?_;refine fC ?_;refine dk ?_;refine qp ?_;refine J1 ?_
  refine bE Tryz.results299 (λ w hw=>?_)
  (rw[<- Uw hn (by omega) (by omega)];exact⟨rfl,hw.done⟩)
end

/- C-nodes are maps: the plain laws. -/
end Go.Proofs.YtnilhhnfjfdokaaGreatDoor
namespace Go.Ct
section
open Go Go.RowKit
def Wj(b:Nat)(xs:List Int)(k:Nat):Option Int:=if b.testBit k=true then some (xs.getD (iH b k) 0) else none
def kq(m:Nat->Option Int):Nat->Nat
 | 0=>0
 | k+1=>if(m k).isSome=true then kq m k ||| 2^k else kq m k
def pb(m:Nat->Option Int):Nat->List Int
 | 0=>[]
 | k+1=>pb m k++(m k).toList
def lj(m:Nat->Option Int)(i:Nat)(o:Option Int)(k:Nat):Option Int:=if k=i then o else m k
structure BV(b:Nat)(xs:List Int):Prop where
 lt:b<18446744073709551616
 len:xs.length=iH b 64
 pos:∀i,i<xs.length->1<=xs.getD i 0
theorem W9(m:Nat->Option Int)(j:Nat):∀k,(kq m k).testBit j=(decide (j<k)&&(m j).isSome)
 | 0=>by simp[kq]
 | k+1=>by
  have ih:=W9 m j k
  simp only[kq]
  by_cases hjk:j=k
  ·subst hjk
   by_cases h:(m j).isSome=true
   ·rw[if_pos h,Nat.testBit_or,Nat.testBit_two_pow];simp[h]
   ·rw[if_neg h,ih];simp at h;simp[h]
  ·have h2:(2^k).testBit j=false:=by rw[Nat.testBit_two_pow];exact decide_eq_false (λ h=>hjk h.symm)
   split
   ·rw[Nat.testBit_or,ih,h2,Bool.or_false]
    congr 1
    exact decide_eq_decide.2 (by omega)
   ·rw[ih]
    congr 1
    exact decide_eq_decide.2 (by omega)
theorem qJ(b:Nat)(k:Nat):∀d,iH b k<=iH b (k+d)
 | 0=>Nat.le_refl _
 | d+1=>by have:=qJ b k d;rw[<- Nat.add_assoc];simp only[iH];omega
theorem wY{b k n:Nat}(h:k<n)(hb:b.testBit k=true):iH b k<iH b n:=by
 obtain⟨d,rfl⟩:=Nat.exists_eq_add_of_le (Nat.succ_le_of_lt h)
 have:=qJ b (k+1) d
 simp only[iH,hb,if_true] at this
 exact this
theorem Yc{b:Nat}{xs:List Int}(h:xs.length=iH b 64):∀k,k<=64->pb (Wj b xs) k=xs.take (iH b k)
 | 0,_=>by simp[pb,iH]
 | k+1,hk=>by
  have ih:=Yc h k (by omega)
  simp only[pb,ih,Wj,iH]
  split
  ·rename_i hb
   have:=wY (n:=64) (by omega) hb
   rw[List.take_add_one,Option.toList,G0,List.getElem?_eq_getElem (by omega)]
   rfl
  ·simp
theorem H7{b b' i:Nat}(h:b.testBit i=false)(hb:∀j,j<64->b'.testBit j=(b.testBit j||decide (j=i))):∀k,k<=64->iH b' k=iH b k+if i<k then 1 else 0
 | 0,_=>rfl
 | k+1,hk=>by
  have ih:=H7 h hb k (by omega)
  simp only[iH,ih,hb k (by omega)]
  by_cases hki:k=i
  ·subst hki
   simp[h]
  ·have:decide (k=i)=false:=decide_eq_false hki
   rw[this,Bool.or_false]
   have e:(i<k+1)↔(i<k):=by omega
   simp only[e]
   omega
def tM(xs:List Int)(p:Nat)(r:Int):List Int:=xs.take p++r::xs.drop p
def B8(xs:List Int)(p:Nat)(r:Int):List Int:=xs.take p++r::xs.drop (p+1)
theorem Ir{xs:List Int}{p:Nat}(hp:p<=xs.length)(r:Int):(tM xs p r).length=xs.length+1:=by
 simp[tM];omega
theorem Hq{xs:List Int}{p:Nat}(hp:p<xs.length)(r:Int):(B8 xs p r).length=xs.length:=by
 simp[B8];omega
theorem M4{xs:List Int}{p:Nat}(hp:p<=xs.length)(r:Int)(q:Nat):(tM xs p r).getD q 0=if q<p then xs.getD q 0 else if q=p then r else xs.getD (q-1) 0:=by
 simp only[tM,G0]
 by_cases h1:q<p
 ·rw[if_pos h1,List.getElem?_append_left (by simp;omega),List.getElem?_take_of_lt h1]
 ·rw[if_neg h1,List.getElem?_append_right (by simp;omega)]
  have:(xs.take p).length=p:=by simp;omega
  rw[this]
  by_cases h2:q=p
  ·subst h2;simp
  ·obtain⟨d,hd⟩:∃d,q-p=d+1:=⟨q-p-1,by omega⟩
   rw[if_neg h2,hd,List.getElem?_cons_succ,List.getElem?_drop]
   congr 2
   omega
theorem M3{xs:List Int}{p:Nat}(hp:p<xs.length)(r:Int)(q:Nat):(B8 xs p r).getD q 0=if q=p then r else xs.getD q 0:=by
 simp only[B8,G0]
 by_cases h1:q<p
 ·rw[if_neg (by omega),List.getElem?_append_left (by simp;omega),List.getElem?_take_of_lt h1]
 ·rw[List.getElem?_append_right (by simp;omega)]
  have:(xs.take p).length=p:=by simp;omega
  rw[this]
  by_cases h2:q=p
  ·subst h2;simp
  ·obtain⟨d,hd⟩:∃d,q-p=d+1:=⟨q-p-1,by omega⟩
   rw[if_neg h2,hd,List.getElem?_cons_succ,List.getElem?_drop]
   congr 2
   omega
theorem De{xs ys:List Int}(h:∀i,i<xs.length->1<=xs.getD i 0)(hy:∀j,j<ys.length->1<=ys.getD j 0∨∃i,i<xs.length/\ys.getD j 0=xs.getD i 0):∀j,j<ys.length->1<=ys.getD j 0:=λ j hj=>by
 rcases hy j hj with h1|⟨i,hi,he⟩
 ·exact h1
 ·rw[he];exact h i hi
section
variable{b i:Nat}{xs:List Int}{r:Int}
theorem Jn(b i:Nat)(j:Nat):(b ||| 2^i).testBit j=(b.testBit j||decide (j=i)):=by
 rw[Nat.testBit_or,Nat.testBit_two_pow]
 congr 1
 exact decide_eq_decide.2 eq_comm
theorem Vg(h:BV b xs)(hi:i<64)(hb:b.testBit i=false)(hr:1<=r):BV (b ||| 2^i) (tM xs (iH b i) r)/\∀k,k<64->Wj (b ||| 2^i) (tM xs (iH b i) r) k=lj (Wj b xs) i (some r) k:=by
 have hc:=H7 hb (λ j _=>Jn b i j)
 have hp:iH b i<=xs.length:=by
  obtain⟨d,hd⟩:=Nat.exists_eq_add_of_le (Nat.le_of_lt hi)
  rw[h.len,hd]
  exact qJ b i d
 refine⟨⟨Nat.or_lt_two_pow (n:=64) h.lt (Nat.pow_lt_pow_right (a:=2) (by decide) hi),?_,De h.pos λ j hj=>?_⟩,λ k hk=>?_⟩
 ·rw[Ir hp,hc 64 (Nat.le_refl _),if_pos hi,h.len]
 ·rw[Ir hp] at hj
  rw[M4 hp]
  by_cases h1:j<iH b i
  ·rw[if_pos h1];exact .inr ⟨j,by omega,rfl⟩
  ·rw[if_neg h1]
   by_cases h2:j=iH b i
   ·rw[if_pos h2];exact .inl hr
   ·rw[if_neg h2];exact .inr ⟨j-1,by omega,rfl⟩
 ·simp only[Wj,lj]
  rw[Jn,hc k (by omega),M4 hp]
  by_cases hki:k=i
  ·subst hki;simp
  ·rw[if_neg hki,decide_eq_false hki,Bool.or_false]
   by_cases hbk:b.testBit k=true
   ·rw[if_pos hbk,if_pos hbk]
    congr 1
    by_cases hlt:k<i
    ·have:=wY hlt hbk
     rw[if_neg (show ¬i<k by omega),if_pos (by omega)]
     rfl
    ·have:iH b i<=iH b k:=by
      obtain⟨d,hd⟩:=Nat.exists_eq_add_of_le (show i<=k by omega)
      rw[hd];exact qJ b i d
     rw[if_pos (show i<k by omega),if_neg (by omega),if_neg (by omega)]
     rfl
   ·rw[if_neg hbk,if_neg hbk]
theorem e8(h:BV b xs)(hi:i<64)(hb:b.testBit i=true)(hr:1<=r):BV b (B8 xs (iH b i) r)/\∀k,k<64->Wj b (B8 xs (iH b i) r) k=lj (Wj b xs) i (some r) k:=by
 have hp:iH b i<xs.length:=by rw[h.len];exact wY hi hb
 refine⟨⟨h.lt,by rw[Hq hp,h.len],De h.pos λ j hj=>?_⟩,λ k hk=>?_⟩
 ·rw[Hq hp] at hj
  rw[M3 hp]
  by_cases h2:j=iH b i
  ·rw[if_pos h2];exact .inl hr
  ·rw[if_neg h2];exact .inr ⟨j,hj,rfl⟩
 ·simp only[Wj,lj]
  rw[M3 hp]
  by_cases hki:k=i
  ·subst hki;rw[if_pos hb,if_pos rfl,if_pos rfl]
  ·rw[if_neg hki]
   by_cases hbk:b.testBit k=true
   ·rw[if_pos hbk,if_pos hbk,if_neg]
    rcases Nat.lt_or_gt_of_ne hki with hlt|hlt
    ·have:=wY hlt hbk;omega
    ·have:=wY hlt hb;omega
   ·rw[if_neg hbk,if_neg hbk]
end
end

end Go.Ct
