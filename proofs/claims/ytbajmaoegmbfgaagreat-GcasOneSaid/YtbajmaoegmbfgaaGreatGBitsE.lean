/- Merged. -/
import Derived.Test.YtbajmaoegmbfgaaGreatGFun
import Derived.Test.YtbajmaoegmbfgaaGreatGPa1
import Derived.Test.YtbajmaoegmbfgaaGreatGAr4
import Derived.Test.YtbajmaoegmbfgaaGreatAuto
set_option linter.unusedSimpArgs false
set_option linter.unusedVariables false
namespace Go.Ct
open Go Go.RowKit
section
theorem aC1{x a b:Nat}(ha:a<256)(h:x=a+256*b):x/256=b:=by omega
theorem aCV{x a b:Nat}(ha:a<65536)(h:x=a+65536*b):x/65536=b:=by omega
theorem aC4{x a b:Nat}(ha:a<4294967296)(h:x=a+4294967296*b):x/4294967296=b:=by omega
theorem zy{t p s B:Nat}(e:t=p+256*s)(hp:p<=8)(hs:s<=B):t<=8+256*B:=by omega
theorem fa{r t1 t2 t3 p0 p1 p2:Nat}(e0:r=p0+256*t1)(e1:t1=p1+256*t2)(e2:t2=p2+256*t3):r+t1=((p0+p1)+256*(p1+p2))+65536*(t2+t3):=by omega
theorem ca{p0 p1 p2:Nat}(g0:p0<=8)(g1:p1<=8)(g2:p2<=8):(p0+p1)+256*(p1+p2)<65536:=by omega
theorem fb0{t2 t3 t4 t5 t6 t7 p2 p3 p4 p5 p6:Nat}(e2:t2=p2+256*t3)(e3:t3=p3+256*t4)(e4:t4=p4+256*t5)(e5:t5=p5+256*t6)(e6:t6=p6+256*t7):t2+t3+t4+t5=(p2+p3+p4+p5)+256*(p3+p4+p5+p6)+65536*(t4+t5+t6+t7):=by
 subst e6
 omega
theorem fb{r t1 t2 t3 t4 t5 t6 t7 p0 p1 p2 p3 p4 p5 p6:Nat}(f4:r+t1=((p0+p1)+256*(p1+p2))+65536*(t2+t3))(e2:t2=p2+256*t3)(e3:t3=p3+256*t4)(e4:t4=p4+256*t5)(e5:t5=p5+256*t6)(e6:t6=p6+256*t7) :
  r+t1+(t2+t3)=((p0+p1+p2+p3)+256*(p1+p2+p3+p4)+65536*(p2+p3+p4+p5)+16777216*(p3+p4+p5+p6))+4294967296*(t4+t5+t6+t7):=by
 have h1:=fb0 e2 e3 e4 e5 e6
 have h2:t2+t3=(p2+p3)+256*(t3+t4):=by clear h1 f4 e4 e5 e6;omega
 have h3:t3+t4=(p3+p4)+256*(t4+t5):=by clear h1 h2 f4 e2 e5 e6;omega
 clear e2 e3 e4 e5 e6
 omega
theorem cb{p0 p1 p2 p3 p4 p5 p6:Nat}(g0:p0<=8)(g1:p1<=8)(g2:p2<=8)(g3:p3<=8)(g4:p4<=8)(g5:p5<=8)(g6:p6<=8):(p0+p1+p2+p3)+256*(p1+p2+p3+p4)+65536*(p2+p3+p4+p5)+16777216*(p3+p4+p5+p6)<4294967296:=by omega
theorem fc{r t1:Nat}(b0:r<=8+256*(8+256*(8+256*(8+256*(8+256*(8+256*(8+256*8)))))))(b1:t1<=8+256*(8+256*(8+256*(8+256*(8+256*(8+256*8)))))):r+t1<9223372036854775808:=by omega
theorem fd{r t1 t2 t3:Nat}(b0:r<=8+256*(8+256*(8+256*(8+256*(8+256*(8+256*(8+256*8)))))))(b1:t1<=8+256*(8+256*(8+256*(8+256*(8+256*(8+256*8))))))(b2:t2<=8+256*(8+256*(8+256*(8+256*(8+256*8)))))(b3:t3<=8+256*(8+256*(8+256*(8+256*8)))):r+t1+(t2+t3)<9223372036854775808:=by omega
theorem fe{p1 p2 p3 p4 p5 p6 t4 t5 t6 t7:Nat}(g1:p1<=8)(g2:p2<=8)(g3:p3<=8)(g4:p4<=8)(g5:p5<=8)(g6:p6<=8)(b4:t4<=8+256*(8+256*(8+256*8)))(b5:t5<=8+256*(8+256*8))(b6:t6<=8+256*8)(b7:t7<=8) :
  (p1+p2+p3+p4)+256*(p2+p3+p4+p5)+65536*(p3+p4+p5+p6)+16777216*(t4+t5+t6+t7)+(t5+t6+t7)<36028797018963968:=by omega
theorem ff{p0 p1 p2 p3 p4 p5 p6 p7 t4 t5 t6 t7:Nat}(e4:t4=p4+256*t5)(e5:t5=p5+256*t6)(e6:t6=p6+256*t7)(e7:t7=p7) :
  ((p0+p1+p2+p3)+256*(p1+p2+p3+p4)+65536*(p2+p3+p4+p5)+16777216*(p3+p4+p5+p6))+4294967296*(t4+t5+t6+t7)+(t4+t5+t6+t7) =
   (p0+p1+p2+p3+p4+p5+p6+p7)+256*((p1+p2+p3+p4)+256*(p2+p3+p4+p5)+65536*(p3+p4+p5+p6)+16777216*(t4+t5+t6+t7)+(t5+t6+t7)):=by
 have h:t4+t5+t6+t7=(p4+p5+p6+p7)+256*(t5+t6+t7):=by omega
 generalize t4+t5+t6+t7=s at *
 clear e4 e5 e6 e7
 omega
theorem m8{p0 p1 p2 p3 p4 p5 p6 p7 r t1 t2 t3 t4 t5 t6 t7:Nat}(g0:p0<=8)(g1:p1<=8)(g2:p2<=8)(g3:p3<=8)(g4:p4<=8)(g5:p5<=8)(g6:p6<=8)(g7:p7<=8)
  (e0:r=p0+256*t1) (e1:t1=p1+256*t2) (e2:t2=p2+256*t3) (e3:t3=p3+256*t4) (e4:t4=p4+256*t5) (e5:t5=p5+256*t6) (e6:t6=p6+256*t7) (e7:t7=p7) :
  r+r/256<9223372036854775808/\(r+r/256)+(r+r/256)/65536<9223372036854775808/\∃K,K<36028797018963968/\((r+r/256)+(r+r/256)/65536)+((r+r/256)+(r+r/256)/65536)/4294967296=(p0+p1+p2+p3+p4+p5+p6+p7)+256*K:=by
 have b7:t7<=8:=by rw[e7];exact g7
 have b6:=zy e6 g6 b7
 have b5:=zy e5 g5 b6
 have b4:=zy e4 g4 b5
 have b3:=zy e3 g3 b4
 have b2:=zy e2 g2 b3
 have b1:=zy e1 g1 b2
 have b0:=zy e0 g0 b1
 have f4:r+t1=((p0+p1)+256*(p1+p2))+65536*(t2+t3):=fa e0 e1 e2
 have c4:(p0+p1)+256*(p1+p2)<65536:=ca g0 g1 g2
 have f5:r+t1+(t2+t3)=((p0+p1+p2+p3)+256*(p1+p2+p3+p4)+65536*(p2+p3+p4+p5)+16777216*(p3+p4+p5+p6))+4294967296*(t4+t5+t6+t7):=fb f4 e2 e3 e4 e5 e6
 have c5:=cb g0 g1 g2 g3 g4 g5 g6
 rw[aC1 (Nat.lt_of_le_of_lt g0 (by decide)) e0,aCV c4 f4,aC4 c5 f5]
 refine⟨fc b0 b1,fd b0 b1 b2 b3,(p1+p2+p3+p4)+256*(p2+p3+p4+p5)+65536*(p3+p4+p5+p6)+16777216*(t4+t5+t6+t7)+(t5+t6+t7),?_,?_⟩
 ·exact fe g1 g2 g3 g4 g5 g6 b4 b5 b6 b7
 ·rw[f5];exact ff e4 e5 e6 e7
end
section
theorem aAm{c K:Nat}(hc:c<=64)(hK:K<36028797018963968):pT .i64 (IntKind.i64.wrap ((c+256*K:Nat):Int)) 127=(c:Int):=by
 rw[wrap_i64 (by omega) (by omega)]
 unfold pT
 have h1:(BitVec.ofInt IntKind.i64.bits ((c+256*K:Nat):Int)).toNat=c+256*K:=by
  show(BitVec.ofInt 64 ((c+256*K:Nat):Int)).toNat=_
  rw[BitVec.toNat_ofInt]
  omega
 have h2:(BitVec.ofInt IntKind.i64.bits 127).toNat=127:=by decide
 rw[BitVec.toNat_and,h1,h2,show(127:Nat)=2^7-1 from rfl,Nat.and_two_pow_sub_one_eq_mod]
 have h3:(c+256*K)%2^7=c:=by omega
 rw[h3]
 exact wrap_i64 (by omega) (by omega)
theorem sM{n:Nat}(hn:n<18446744073709551616):yX (n:Int)=((gC n 64:Nat):Int):=by
 obtain⟨r,h1,ps,h2,h3,h4,h5⟩:=Hz 8 n hn
 obtain⟨q1,q2,_⟩:=h1 _ rfl
 match ps,h2 with
 | [p0,p1,p2,p3,p4,p5,p6,p7],_ =>
  simp only[List.mem_cons,List.not_mem_nil,or_false,forall_eq_or_imp,forall_eq] at h3
  simp only[List.foldr_cons,List.foldr_nil] at h4
  simp only[List.sum_cons,List.sum_nil] at h5
  obtain⟨g0,g1,g2,g3,g4,g5,g6,g7⟩:=h3
  have b5:kV 1 6148914691236517205 n<18446744073709551616:=by
   unfold kV
   have h1:(n >>> 1) &&& 6148914691236517205<=6148914691236517205:=Nat.and_le_right
   have h2:n &&& 6148914691236517205<=6148914691236517205:=Nat.and_le_right
   omega
  have e1:∀m:Nat,m<18446744073709551616->IntKind.u64.wrap (pT .u64 (pZ .u64 (m:Int) 1) 6148914691236517205+pT .u64 (m:Int) 6148914691236517205)=((kV 1 6148914691236517205 m:Nat):Int):=λ m hm=>by
   have hs:m >>> 1<18446744073709551616:=Nat.lt_of_le_of_lt (Nat.shiftRight_le _ _) hm
   have r1:pZ .u64 (m:Int) 1=((m >>> 1:Nat):Int):=qB (i:=1) (by decide)
   have a1:pT .u64 ((m >>> 1:Nat):Int) 6148914691236517205=(((m >>> 1) &&& 6148914691236517205:Nat):Int):=qE hs (m:=6148914691236517205) (by decide)
   have a2:pT .u64 (m:Int) 6148914691236517205=((m &&& 6148914691236517205:Nat):Int):=qE hm (m:=6148914691236517205) (by decide)
   rw[r1,a1,a2,<- Int.natCast_add]
   refine nU ?_
   have h1:(m >>> 1) &&& 6148914691236517205<=6148914691236517205:=Nat.and_le_right
   have h2:m &&& 6148914691236517205<=6148914691236517205:=Nat.and_le_right
   omega
  have e2:∀m:Nat,m<18446744073709551616->IntKind.u64.wrap (pT .u64 (pZ .u64 (m:Int) 2) 3689348814741910323+pT .u64 (m:Int) 3689348814741910323)=((kV 2 3689348814741910323 m:Nat):Int):=λ m hm=>by
   have hs:m >>> 2<18446744073709551616:=Nat.lt_of_le_of_lt (Nat.shiftRight_le _ _) hm
   have r1:pZ .u64 (m:Int) 2=((m >>> 2:Nat):Int):=qB (i:=2) (by decide)
   have a1:pT .u64 ((m >>> 2:Nat):Int) 3689348814741910323=(((m >>> 2) &&& 3689348814741910323:Nat):Int):=qE hs (m:=3689348814741910323) (by decide)
   have a2:pT .u64 (m:Int) 3689348814741910323=((m &&& 3689348814741910323:Nat):Int):=qE hm (m:=3689348814741910323) (by decide)
   rw[r1,a1,a2,<- Int.natCast_add]
   refine nU ?_
   have h1:(m >>> 2) &&& 3689348814741910323<=3689348814741910323:=Nat.and_le_right
   have h2:m &&& 3689348814741910323<=3689348814741910323:=Nat.and_le_right
   omega
  have m5:sN 85 8=6148914691236517205:=by decide
  have m3:sN 51 8=3689348814741910323:=by decide
  have mf:sN 15 8=1085102592571150095:=by decide
  rw[m5,m3] at q1 q2
  rw[mf] at q1
  unfold yX
  simp only[]
  rw[e1 n hn,e2 _ b5]
  generalize kV 2 3689348814741910323 (kV 1 6148914691236517205 n)=Q at *
  have hQ:Q<18446744073709551616:=q2
  have hr:r<18446744073709551616:=by rw[<- q1];exact Nat.lt_of_le_of_lt Nat.and_le_right (by decide)
  have e3:pT .u64 (IntKind.u64.wrap (pZ .u64 (Q:Int) 4+(Q:Int))) 1085102592571150095=(r:Int):=by
   have r1:pZ .u64 (Q:Int) 4=((Q >>> 4:Nat):Int):=qB (i:=4) (by decide)
   rw[r1,<- Int.natCast_add]
   have h2:IntKind.u64.wrap ((Q >>> 4+Q:Nat):Int)=(((Q >>> 4+Q)%18446744073709551616:Nat):Int):=by
    have:IntKind.u64.wrap ((Q >>> 4+Q:Nat):Int)=((Q >>> 4+Q:Nat):Int)%18446744073709551616:=by simp[IntKind.wrap,IntKind.signed,IntKind.bits]
    rw[this];omega
   rw[h2]
   have a1:=qE (n:=(Q >>> 4+Q)%18446744073709551616) (m:=1085102592571150095) (Nat.mod_lt _ (by decide)) (by decide)
   refine a1.trans ?_
   rw[<- q1]
   congr 1
   refine Nat.eq_of_testBit_eq λ i=>?_
   rw[Nat.testBit_and,Nat.testBit_and,show(18446744073709551616:Nat)=2^64 from rfl,Nat.testBit_mod_two_pow]
   by_cases hi:i<64
   ·simp[hi]
   ·have:(1085102592571150095:Nat).testBit i=false:=Nat.testBit_lt_two_pow (Nat.lt_of_lt_of_le (by decide:(1085102592571150095:Nat)<2^64) (Nat.pow_le_pow_right (by decide) (by omega)))
    rw[this];simp
  rw[e3]
  have s1:∀m:Nat,pZ .u64 (m:Int) 8=((m/256:Nat):Int):=λ m=>by
   have:pZ .u64 (m:Int) 8=((m >>> 8:Nat):Int):=qB (i:=8) (by decide)
   rw[this,Nat.shiftRight_eq_div_pow]
  have s2:∀m:Nat,pZ .u64 (m:Int) 16=((m/65536:Nat):Int):=λ m=>by
   have:pZ .u64 (m:Int) 16=((m >>> 16:Nat):Int):=qB (i:=16) (by decide)
   rw[this,Nat.shiftRight_eq_div_pow]
  have s3:∀m:Nat,pZ .u64 (m:Int) 32=((m/4294967296:Nat):Int):=λ m=>by
   have:pZ .u64 (m:Int) 32=((m >>> 32:Nat):Int):=qB (i:=32) (by decide)
   rw[this,Nat.shiftRight_eq_div_pow]
  have w64:∀m:Nat,m<9223372036854775808->IntKind.u64.wrap ((m:Nat):Int)=(m:Int):=λ m hm=>nU (by omega)
  have hs:gC n 64=p0+p1+p2+p3+p4+p5+p6+p7:=by rw[show(64:Nat)=8*8 from rfl,<- h5];omega
  have hc:=zH n 64
  have hx:=m8 (t7:=p7) (t6:=p6+256*p7) (t5:=p5+256*(p6+256*p7)) (t4:=p4+256*(p5+256*(p6+256*p7))) (t3:=p3+256*(p4+256*(p5+256*(p6+256*p7)))) (t2:=p2+256*(p3+256*(p4+256*(p5+256*(p6+256*p7))))) (t1:=p1+256*(p2+256*(p3+256*(p4+256*(p5+256*(p6+256*p7)))))) (r:=r) g0 g1 g2 g3 g4 g5 g6 g7 (by rw[h4];rfl) rfl rfl rfl rfl rfl rfl rfl
  clear h4 q1 q2 e3 e1 e2 b5 h1 hr hQ hn m5 m3 mf h5
  obtain⟨x4,x5,K,hK,x6⟩:=hx
  rw[s1,<- Int.natCast_add,w64 _ x4,s2,<- Int.natCast_add,w64 _ x5,s3,<- Int.natCast_add,x6,<- hs,w64 _ (by omega)]
  exact aAm hc hK
end
section
def qJ(n:Nat)(i:Int):Bool:=decide (0<=i)&&(decide (i<64)&&n.testBit i.toNat)
theorem tz(n:Nat){i:Int}(h:i<0):qJ n i=false:=by simp[qJ];omega
theorem W3(n:Nat){i:Int}(h:64<=i):qJ n i=false:=by simp[qJ];omega
theorem tF(n:Nat){i:Int}(h0:0<=i)(h1:i<64):qJ n i=n.testBit i.toNat:=by simp[qJ,h0,h1]
theorem tc{n:Nat}(hn:n<18446744073709551616){i:Int}(h0:0<=i)(h1:i<64):(pT .u64 (pZ .u64 (n:Int) i) 1==1)=qJ n i:=by
 obtain⟨k,rfl⟩:=Int.eq_ofNat_of_zero_le h0
 rw[tF n h0 h1,qB (by omega)]
 have h2:pT .u64 ((n >>> k:Nat):Int) 1=(((n >>> k) &&& 1:Nat):Int):=qE (Nat.lt_of_le_of_lt (Nat.shiftRight_le _ _) hn) (m:=1) (by decide)
 rw[h2]
 simp only[Int.toNat_natCast,Nat.testBit,Nat.and_comm 1]
 rw[Nat.and_one_is_mod]
 rcases Nat.mod_two_eq_zero_or_one (n >>> k) with h|h<;>rw[h]<;>rfl
def rX(n:Nat)(i:Int):Nat:=gC n (min i.toNat 64)
def dZ(n:Nat)(i:Int):Nat:=if 0<=i/\i<64 then n ||| 2^i.toNat else n
def wI(n:Nat)(i:Int):Nat:=if 0<=i/\i<64 then n ^^^ (n &&& 2^i.toNat) else n
theorem mb{n:Nat}(hn:n<18446744073709551616){i:Int}(h0:0<=i)(h1:i<64):rOr .u64 (n:Int) (ja .u64 1 i)=((dZ n i:Nat):Int):=by
 obtain⟨k,rfl⟩:=Int.eq_ofNat_of_zero_le h0
 have hp:=Nat.pow_lt_pow_right (a:=2) (by decide) (show k<64 by omega)
 rw[iq (by omega),ui hn (by omega),dZ,if_pos ⟨h0,h1⟩]
 rfl
theorem Bf{n:Nat}(hn:n<18446744073709551616)(i:Int):dZ n i<18446744073709551616:=by
 unfold dZ
 split
 ·rename_i h
  have hp:=Nat.pow_lt_pow_right (a:=2) (by decide) (show i.toNat<64 by omega)
  exact Nat.or_lt_two_pow (n:=64) hn hp
 ·exact hn
end
end Go.Ct
namespace Go.Proofs.YtbajmaoegmbfgaaGreat
open Go.RowKit Go.Ct
section
theorem Ii{n:Nat}(hn:n<18446744073709551616)(i:Int)(w:World):Calls Tryz.prog 195 #[.int .u64 (n:Int),.int .i64 i] w λ e w'=>e=.returned (.bool (qJ n i))/\St w [] [] w':=by
 refine enter Tryz.func195 Tryz.ntmps195 rfl rfl (SF.s0 w) ?_
 simp only[cG]
 refine Kc7 ?_;refine oG ?_;refine aB ?_
 (refine eI 7 (λ g7=>?_) (λ g7=>?_)<;>refine Ka0 ?_)
 all_goals (refine wo ?_;refine aB ?_)
 all_goals (first|refine aJ ?_|(refine eI 11 (λ g11=>?_) (λ g11=>?_)<;>refine Ka0 ?_))
 all_goals (refine Ka0 ?_;(first|refine aJ ?_|(refine aF ?_;refine nM ?_));(first|refine aJ ?_|(refine aF ?_;refine Fo ?_));(first|refine aJ ?_|(refine aF ?_;refine Gw ?_));refine uM ?_;refine J1 ?_)
 all_goals
 refine aT Tryz.results195 (λ w hw=>?_)
 first|(rw[tz n (by omega)];exact⟨rfl,hw.done⟩)|(rw[W3 n (by omega)];exact⟨rfl,hw.done⟩)|(rw[<- tc hn (by omega) (by omega)];exact⟨rfl,hw.done⟩)
theorem Pm{n:Nat}(hn:n<18446744073709551616)(i:Int)(w:World):Calls Tryz.prog 207 #[.int .u64 (n:Int),.int .i64 i] w λ e w'=>e=.returned (.int .i64 ((rX n i:Nat):Int))/\St w [] [] w':=by
 refine enter Tryz.func207 Tryz.ntmps207 rfl rfl (SF.s0 w) ?_
 simp only[cG]
 refine dA ?_;refine E8 ?_;refine D8 ?_
 refine iF [5,6,7,8,9,10,11,12,13,14,15,16,17,18,19,20] (λ k=>[(5,.int .i64 ((gC n k:Nat):Int)),(6,.int .i64 ((k:Nat):Int))]) (λ k=>k<=64/\(k:Int)<=max i 0) (λ k=>64-k) (0) (⟨by decide,by omega⟩) ?_ (λ k f hx=>?_)
 ·repeat (first|exact bJ _|refine bF (by exact rfl) ?_)
 dsimp only[iC,List.map,List.cons_append,List.nil_append]
 have hcl:=zH n k
 refine Kb6 ?_
 (refine eI 9 (λ g9=>?_) (λ g9=>?_)<;>refine Ka0 ?_)
 all_goals (refine Ka0 ?_;refine wo ?_;refine aI ?_)
 all_goals
 refine bC (λ c13=>?_) (λ c13=>?_)
 ·try exact nv c13
  all_goals (refine rY ?_;refine jF ?_;refine aP (cV (hc:=λ w1 hw=>Ii hn (k:Int) w1)) (λ x18=>?_);refine aI ?_)
  all_goals
   refine bC (λ c18=>?_) (λ c18=>?_)
   ·refine uU ?_;refine Ka8 ?_
    refine fP (k+1) ?_ ?_ ?_
    ·omega
    ·repeat' (first|exact bJ _|refine bF ?_ ?_)
     all_goals (first|exact rfl|(rw[tF n (by omega) (by omega),Int.toNat_natCast] at *;conv=>{lhs;whnf};congr 2;simp only[gC];simp_all;done))
    ·omega
   ·refine Kc1 ?_
    refine fP (k+1) ?_ ?_ ?_
    ·omega
    ·repeat' (first|exact bJ _|refine bF ?_ ?_)
     all_goals (first|exact rfl|(rw[tF n (by omega) (by omega),Int.toNat_natCast] at *;conv=>{lhs;whnf};congr 2;simp only[gC];simp_all;done))
    ·omega
 ·all_goals (refine bT rfl ?_;refine Ka5 ?_)
  all_goals
   refine aT Tryz.results207 (λ w hw=>?_)
   have:rX n i=gC n k:=by unfold rX;congr 1;omega
   rw[this]
   exact⟨rfl,hw.done⟩
theorem R8{n:Nat}(hn:n<18446744073709551616)(w:World):Calls Tryz.prog 170 #[.int .u64 (n:Int)] w λ e w'=>e=.returned (.int .i64 ((gC n 64:Nat):Int))/\St w [] [] w':=by
 refine enter Tryz.func170 Tryz.ntmps170 rfl rfl (SF.s0 w) ?_
 simp only[cG]
 refine Kc7 ?_;refine aP (cV (hc:=λ w1 hw=>Pm hn 64 w1)) (λ x4=>?_);refine J1 ?_
 refine aT Tryz.results170 (λ w hw=>?_)
 exact⟨rfl,hw.done⟩
theorem nQ{n:Nat}(hn:n<18446744073709551616)(i:Int)(w:World):Calls Tryz.prog 254 #[.int .u64 (n:Int),.int .i64 i] w λ e w'=>e=.returned (.int .u64 ((dZ n i:Nat):Int))/\St w [] [] w':=by
 refine enter Tryz.func254 Tryz.ntmps254 rfl rfl (SF.s0 w) ?_
 simp only[cG]
 refine dA ?_;refine Kb6 ?_
 (refine eI 7 (λ g7=>?_) (λ g7=>?_)<;>refine Ka0 ?_)
 all_goals (refine Ka7 ?_)
 all_goals
 refine bC (λ c10=>?_) (λ c10=>?_)
 ·all_goals (refine Ka5 ?_)
  all_goals
   refine aT Tryz.results254 (λ w hw=>?_)
   (rw[show dZ n i=n by unfold dZ;rw[if_neg (by omega)]];exact⟨rfl,hw.done⟩)
 ·try exact nv c10
  all_goals (refine Du ?_;refine nM ?_;refine aBO ?_;refine aCM ?_;refine J1 ?_)
  all_goals
   refine aT Tryz.results254 (λ w hw=>?_)
   (rw[<- mb hn (by omega) (by omega)];exact⟨rfl,hw.done⟩)
end
end Go.Proofs.YtbajmaoegmbfgaaGreat
namespace Go.Ct
open Go Go.RowKit
section
def qS(b:Nat)(xs:List Int)(k:Nat):Option Int:=if b.testBit k=true then some (xs.getD (gC b k) 0) else none
def Bj(m:Nat->Option Int):Nat->Nat
 | 0=>0
 | k+1=>if(m k).isSome=true then Bj m k ||| 2^k else Bj m k
def qK(m:Nat->Option Int):Nat->List Int
 | 0=>[]
 | k+1=>qK m k++(m k).toList
def Kz(m:Nat->Option Int)(i:Nat)(o:Option Int)(k:Nat):Option Int:=if k=i then o else m k
structure BV(b:Nat)(xs:List Int):Prop where
 lt:b<18446744073709551616
 len:xs.length=gC b 64
 pos:∀i,i<xs.length->1<=xs.getD i 0
theorem Wf(m:Nat->Option Int)(j:Nat):∀k,(Bj m k).testBit j=(decide (j<k)&&(m j).isSome)
 | 0=>by simp[Bj]
 | k+1=>by
  have ih:=Wf m j k
  simp only[Bj]
  by_cases hjk:j=k
  ·subst hjk
   by_cases h:(m j).isSome=true
   ·rw[if_pos h,Nat.testBit_or,Nat.testBit_two_pow];simp[h]
   ·rw[if_neg h,ih];simp at h;simp[h]
  ·have h2:(2^k).testBit j=false:=by rw[Nat.testBit_two_pow];exact decide_eq_false (λ h=>hjk h.symm)
   split
   ·rw[Nat.testBit_or,ih,h2,Bool.or_false]
    congr 1
    exact decide_eq_decide.2 (by omega)
   ·rw[ih]
    congr 1
    exact decide_eq_decide.2 (by omega)
theorem a7(m:Nat->Option Int):∀k,Bj m k<2^k
 | 0=>by simp[Bj]
 | k+1=>by
  have ih:=a7 m k
  have h2:2^(k+1)=2^k+2^k:=by rw[Nat.pow_succ];omega
  simp only[Bj]
  split
  ·refine Nat.or_lt_two_pow (by omega) ?_
   have:=Nat.two_pow_pos k
   omega
  ·omega
theorem Cp{xs:List Int}{i:Nat}(h:i<xs.length):xs.getD i 0∈xs:=by
 rw[iU,List.getElem?_eq_getElem h]
 exact List.getElem_mem h
theorem Qn{m m':Nat->Option Int}:∀n,(∀k,k<n->m k=m' k)->Bj m n=Bj m' n/\qK m n=qK m' n
 | 0,_=>⟨rfl,rfl⟩
 | n+1,h=>by
  obtain⟨h1,h2⟩:=Qn n λ k hk=>h k (by omega)
  simp only[Bj,qK,h1,h2,h n (by omega),and_self]
theorem wN(b:Nat)(k:Nat):∀d,gC b k<=gC b (k+d)
 | 0=>Nat.le_refl _
 | d+1=>by have:=wN b k d;rw[<- Nat.add_assoc];simp only[gC];omega
theorem pD{b k n:Nat}(h:k<n)(hb:b.testBit k=true):gC b k<gC b n:=by
 obtain⟨d,rfl⟩:=Nat.exists_eq_add_of_le (Nat.succ_le_of_lt h)
 have:=wN b (k+1) d
 simp only[gC,hb,if_true] at this
 exact this
theorem Wz{b:Nat}{xs:List Int}(h:xs.length=gC b 64):∀k,k<=64->qK (qS b xs) k=xs.take (gC b k)
 | 0,_=>by simp[qK,gC]
 | k+1,hk=>by
  have ih:=Wz h k (by omega)
  simp only[qK,ih,qS,gC]
  split
  ·rename_i hb
   have:=pD (n:=64) (by omega) hb
   rw[List.take_add_one,Option.toList,iU,List.getElem?_eq_getElem (by omega)]
   rfl
  ·simp
theorem S7{b:Nat}{xs:List Int}(h:BV b xs):Bj (qS b xs) 64=b/\qK (qS b xs) 64=xs:=by
 refine⟨Nat.eq_of_testBit_eq λ j=>?_,?_⟩
 ·rw[Wf]
  by_cases hj:j<64
  ·rw[decide_eq_true hj,Bool.true_and]
   unfold qS
   cases hb:b.testBit j<;>simp
  ·rw[decide_eq_false hj,Bool.false_and]
   exact(Nat.testBit_lt_two_pow (Nat.lt_of_lt_of_le h.lt (Nat.pow_le_pow_right (n:=2) (by decide) (show 64<=j by omega)))).symm
 ·rw[Wz h.len 64 (Nat.le_refl _),<- h.len,List.take_length]
theorem A9{b b' i:Nat}(h:b.testBit i=false)(hb:∀j,j<64->b'.testBit j=(b.testBit j||decide (j=i))):∀k,k<=64->gC b' k=gC b k+if i<k then 1 else 0
 | 0,_=>rfl
 | k+1,hk=>by
  have ih:=A9 h hb k (by omega)
  simp only[gC,ih,hb k (by omega)]
  by_cases hki:k=i
  ·subst hki
   simp[h]
  ·have:decide (k=i)=false:=decide_eq_false hki
   rw[this,Bool.or_false]
   have e:(i<k+1)↔(i<k):=by omega
   simp only[e]
   omega
def xI(xs:List Int)(p:Nat)(r:Int):List Int:=xs.take p++r::xs.drop p
def qU(xs:List Int)(p:Nat)(r:Int):List Int:=xs.take p++r::xs.drop (p+1)
def sJ(xs:List Int)(p:Nat):List Int:=xs.take p++xs.drop (p+1)
theorem Fz{xs:List Int}{p:Nat}(hp:p<=xs.length)(r:Int):(xI xs p r).length=xs.length+1:=by
 simp[xI];omega
theorem wM{xs:List Int}{p:Nat}(hp:p<xs.length)(r:Int):(qU xs p r).length=xs.length:=by
 simp[qU];omega
theorem H9{xs:List Int}{p:Nat}(hp:p<xs.length):(sJ xs p).length+1=xs.length:=by
 simp[sJ];omega
theorem Vq{xs:List Int}{p:Nat}(hp:p<=xs.length)(r:Int)(q:Nat):(xI xs p r).getD q 0=if q<p then xs.getD q 0 else if q=p then r else xs.getD (q-1) 0:=by
 simp only[xI,iU]
 by_cases h1:q<p
 ·rw[if_pos h1,List.getElem?_append_left (by simp;omega),List.getElem?_take_of_lt h1]
 ·rw[if_neg h1,List.getElem?_append_right (by simp;omega)]
  have:(xs.take p).length=p:=by simp;omega
  rw[this]
  by_cases h2:q=p
  ·subst h2;simp
  ·obtain⟨d,hd⟩:∃d,q-p=d+1:=⟨q-p-1,by omega⟩
   rw[if_neg h2,hd,List.getElem?_cons_succ,List.getElem?_drop]
   congr 2
   omega
theorem Ls{xs:List Int}{p:Nat}(hp:p<xs.length)(r:Int)(q:Nat):(qU xs p r).getD q 0=if q=p then r else xs.getD q 0:=by
 simp only[qU,iU]
 by_cases h1:q<p
 ·rw[if_neg (by omega),List.getElem?_append_left (by simp;omega),List.getElem?_take_of_lt h1]
 ·rw[List.getElem?_append_right (by simp;omega)]
  have:(xs.take p).length=p:=by simp;omega
  rw[this]
  by_cases h2:q=p
  ·subst h2;simp
  ·obtain⟨d,hd⟩:∃d,q-p=d+1:=⟨q-p-1,by omega⟩
   rw[if_neg h2,hd,List.getElem?_cons_succ,List.getElem?_drop]
   congr 2
   omega
theorem U4{xs:List Int}{p:Nat}(hp:p<xs.length)(q:Nat):(sJ xs p).getD q 0=if q<p then xs.getD q 0 else xs.getD (q+1) 0:=by
 simp only[sJ,iU]
 by_cases h1:q<p
 ·rw[if_pos h1,List.getElem?_append_left (by simp;omega),List.getElem?_take_of_lt h1]
 ·rw[if_neg h1,List.getElem?_append_right (by simp;omega)]
  have:(xs.take p).length=p:=by simp;omega
  rw[this,List.getElem?_drop]
  congr 2
  omega
theorem Bl{xs ys:List Int}(h:∀i,i<xs.length->1<=xs.getD i 0)(hy:∀j,j<ys.length->1<=ys.getD j 0∨∃i,i<xs.length/\ys.getD j 0=xs.getD i 0):∀j,j<ys.length->1<=ys.getD j 0:=λ j hj=>by
 rcases hy j hj with h1|⟨i,hi,he⟩
 ·exact h1
 ·rw[he];exact h i hi
section
variable{b i:Nat}{xs:List Int}{r:Int}
theorem Be(b i:Nat)(j:Nat):(b ||| 2^i).testBit j=(b.testBit j||decide (j=i)):=by
 rw[Nat.testBit_or,Nat.testBit_two_pow]
 congr 1
 exact decide_eq_decide.2 eq_comm
theorem vR(b i:Nat)(j:Nat):(b ^^^ (b &&& 2^i)).testBit j=(b.testBit j&&!decide (j=i)):=by
 rw[Nat.testBit_xor,Nat.testBit_and,Nat.testBit_two_pow]
 have:decide (i=j)=decide (j=i):=decide_eq_decide.2 eq_comm
 rw[this]
 cases b.testBit j<;>cases decide (j=i)<;>rfl
theorem Hn(h:BV b xs)(hi:i<64)(hb:b.testBit i=false)(hr:1<=r):BV (b ||| 2^i) (xI xs (gC b i) r)/\∀k,k<64->qS (b ||| 2^i) (xI xs (gC b i) r) k=Kz (qS b xs) i (some r) k:=by
 have hc:=A9 hb (λ j _=>Be b i j)
 have hp:gC b i<=xs.length:=by
  obtain⟨d,hd⟩:=Nat.exists_eq_add_of_le (Nat.le_of_lt hi)
  rw[h.len,hd]
  exact wN b i d
 refine⟨⟨Nat.or_lt_two_pow (n:=64) h.lt (Nat.pow_lt_pow_right (a:=2) (by decide) hi),?_,Bl h.pos λ j hj=>?_⟩,λ k hk=>?_⟩
 ·rw[Fz hp,hc 64 (Nat.le_refl _),if_pos hi,h.len]
 ·rw[Fz hp] at hj
  rw[Vq hp]
  by_cases h1:j<gC b i
  ·rw[if_pos h1];exact .inr ⟨j,by omega,rfl⟩
  ·rw[if_neg h1]
   by_cases h2:j=gC b i
   ·rw[if_pos h2];exact .inl hr
   ·rw[if_neg h2];exact .inr ⟨j-1,by omega,rfl⟩
 ·simp only[qS,Kz]
  rw[Be,hc k (by omega),Vq hp]
  by_cases hki:k=i
  ·subst hki;simp
  ·rw[if_neg hki,decide_eq_false hki,Bool.or_false]
   by_cases hbk:b.testBit k=true
   ·rw[if_pos hbk,if_pos hbk]
    congr 1
    by_cases hlt:k<i
    ·have:=pD hlt hbk
     rw[if_neg (show ¬i<k by omega),if_pos (by omega)]
     rfl
    ·have:gC b i<=gC b k:=by
      obtain⟨d,hd⟩:=Nat.exists_eq_add_of_le (show i<=k by omega)
      rw[hd];exact wN b i d
     rw[if_pos (show i<k by omega),if_neg (by omega),if_neg (by omega)]
     rfl
   ·rw[if_neg hbk,if_neg hbk]
theorem Uw(h:BV b xs)(hi:i<64)(hb:b.testBit i=true)(hr:1<=r):BV b (qU xs (gC b i) r)/\∀k,k<64->qS b (qU xs (gC b i) r) k=Kz (qS b xs) i (some r) k:=by
 have hp:gC b i<xs.length:=by rw[h.len];exact pD hi hb
 refine⟨⟨h.lt,by rw[wM hp,h.len],Bl h.pos λ j hj=>?_⟩,λ k hk=>?_⟩
 ·rw[wM hp] at hj
  rw[Ls hp]
  by_cases h2:j=gC b i
  ·rw[if_pos h2];exact .inl hr
  ·rw[if_neg h2];exact .inr ⟨j,hj,rfl⟩
 ·simp only[qS,Kz]
  rw[Ls hp]
  by_cases hki:k=i
  ·subst hki;rw[if_pos hb,if_pos rfl,if_pos rfl]
  ·rw[if_neg hki]
   by_cases hbk:b.testBit k=true
   ·rw[if_pos hbk,if_pos hbk,if_neg]
    rcases Nat.lt_or_gt_of_ne hki with hlt|hlt
    ·have:=pD hlt hbk;omega
    ·have:=pD hlt hb;omega
   ·rw[if_neg hbk,if_neg hbk]
theorem Tv(h:BV b xs)(hi:i<64)(hb:b.testBit i=true):BV (b ^^^ (b &&& 2^i)) (sJ xs (gC b i))/\∀k,k<64->qS (b ^^^ (b &&& 2^i)) (sJ xs (gC b i)) k=Kz (qS b xs) i none k:=by
 have hp:gC b i<xs.length:=by rw[h.len];exact pD hi hb
 have hb':(b ^^^ (b &&& 2^i)).testBit i=false:=by rw[vR];simp
 have hc:=A9 (b':=b) hb' (λ j _=>by
  rw[vR]
  by_cases hji:j=i
  ·subst hji;simp[hb]
  ·rw[decide_eq_false hji];simp)
 refine⟨⟨Nat.xor_lt_two_pow (n:=64) h.lt (Nat.lt_of_le_of_lt Nat.and_le_left h.lt),?_,Bl h.pos λ j hj=>?_⟩,λ k hk=>?_⟩
 ·have:=H9 hp
  have:=hc 64 (Nat.le_refl _)
  rw[if_pos hi] at this
  have:=h.len
  omega
 ·have:=H9 hp
  rw[U4 hp]
  by_cases h1:j<gC b i
  ·rw[if_pos h1];exact .inr ⟨j,by omega,rfl⟩
  ·rw[if_neg h1];exact .inr ⟨j+1,by omega,rfl⟩
 ·simp only[qS,Kz]
  have hck:=hc k (by omega)
  rw[vR,U4 hp]
  by_cases hki:k=i
  ·subst hki;simp
  ·rw[if_neg hki,decide_eq_false hki,Bool.not_false,Bool.and_true]
   by_cases hbk:b.testBit k=true
   ·rw[if_pos hbk,if_pos hbk]
    congr 1
    by_cases hlt:k<i
    ·have:=pD hlt hbk
     rw[if_neg (show ¬i<k by omega)] at hck
     rw[if_pos (by omega),hck]
     rfl
    ·have:=pD (show i<k by omega) hb
     rw[if_pos (show i<k by omega)] at hck
     rw[if_neg (by omega),hck]
   ·rw[if_neg hbk,if_neg hbk]
end
end
section
variable{w0 w:World}{M:List Nat}{H:List (Nat×Obj)}{A F:Fr}{O:List Ow}
end
end Go.Ct
namespace Go.Proofs.YtbajmaoegmbfgaaGreat
open Go.RowKit Go.Ct
section
theorem tK{n:Nd}{xs:List Int}{ys:List Pr}(h:n.kind=3)(hv:cC n xs ys):(xs.length:Int)=yX n.bm/\Pos xs:=by
 obtain⟨_,_,_,_,hv⟩:=hv
 rcases hv with h1|⟨h1,_⟩|⟨_,h2,h3⟩|⟨h1|h1,_⟩|⟨h1,_⟩|⟨h1,_⟩|⟨h1,_⟩
 all_goals first|exact⟨h2,h3⟩|(rw[h] at h1;exact absurd h1 (by decide))
end
section
theorem zn (n : Nd) (h1 : 1 ≤ n.kind) (h8 : n.kind ≤ 8) (w : World) : Calls Tryz.prog 169 #[n.v] w fun e w' => e = .returned n.own.v ∧ St w [] [] w' := by
  refine enter Tryz.func169 Tryz.ntmps169 rfl rfl (SF.s0 w) ?_
  simp only [cG]
  refine J0 ?_; refine bM (fun x1 => ?_); refine aL (fun x2 => ?_); refine aI ?_; refine Df ?_; refine aI ?_; refine cW ?_; refine mB ?_
  refine bC (fun c5 => ?_) (fun c5 => ?_)
  · refine iH ?_; refine xF ?_
    refine bD Tryz.results169 (fun w hw => ?_)
    (exact ⟨by simp only [Nd.own, beq_iff_eq, *, if_true, if_false]; rfl, hw.done⟩)
  · refine mB ?_
    refine bC (fun c10 => ?_) (fun c10 => ?_)
    · refine iH ?_; refine J3 ?_; refine J3 ?_; refine xF ?_
      refine bD Tryz.results169 (fun w hw => ?_)
      (exact ⟨by simp only [Nd.own, beq_iff_eq, *, if_true, if_false]; rfl, hw.done⟩)
    · refine mB ?_
      refine bC (fun c19 => ?_) (fun c19 => ?_)
      · refine iH ?_; refine J3 ?_; refine J3 ?_; refine J3 ?_; refine xF ?_
        refine bD Tryz.results169 (fun w hw => ?_)
        (exact ⟨by simp only [Nd.own, beq_iff_eq, *, if_true, if_false]; rfl, hw.done⟩)
      · refine mB ?_
        refine bC (fun c30 => ?_) (fun c30 => ?_)
        · refine iH ?_; refine J3 ?_; refine J3 ?_; refine J3 ?_; refine xF ?_
          refine bD Tryz.results169 (fun w hw => ?_)
          (exact ⟨by simp only [Nd.own, beq_iff_eq, *, if_true, if_false]; rfl, hw.done⟩)
        · refine mB ?_
          refine bC (fun c41 => ?_) (fun c41 => ?_)
          · refine iH ?_; refine J3 ?_; refine J3 ?_; refine J3 ?_; refine J3 ?_; refine xF ?_
            refine bD Tryz.results169 (fun w hw => ?_)
            (exact ⟨by simp only [Nd.own, beq_iff_eq, *, if_true, if_false]; rfl, hw.done⟩)
          · refine mB ?_
            refine bC (fun c54 => ?_) (fun c54 => ?_)
            · refine iH ?_; refine J3 ?_; refine J3 ?_; refine J3 ?_; refine xF ?_
              refine bD Tryz.results169 (fun w hw => ?_)
              (exact ⟨by simp only [Nd.own, beq_iff_eq, *, if_true, if_false]; rfl, hw.done⟩)
            · refine mB ?_
              refine bC (fun c65 => ?_) (fun c65 => ?_)
              · refine iH ?_; refine J3 ?_; refine xF ?_
                refine bD Tryz.results169 (fun w hw => ?_)
                (exact ⟨by simp only [Nd.own, beq_iff_eq, *, if_true, if_false]; rfl, hw.done⟩)
              · refine mB ?_
                refine bC (fun c72 => ?_) (fun c72 => ?_)
                · refine iH ?_; refine J3 ?_; refine J3 ?_; refine J3 ?_; refine J3 ?_; refine xF ?_
                  refine bD Tryz.results169 (fun w hw => ?_)
                  (exact ⟨by simp only [Nd.own, beq_iff_eq, *, if_true, if_false]; rfl, hw.done⟩)
                · refine pF ?_; refine J0 ?_; refine xF ?_
                  refine bD Tryz.results169 (fun w hw => ?_)
                  (exfalso; omega)
theorem gi{n:Nd}{xs:List Int}{ys:List Pr}(h:n.kind=3){k:Nat}(hk:k<xs.length)(hx:xs.getD k 0<1):false=true↔cC n xs ys:=by
 simp only[Bool.false_eq_true,false_iff]
 intro hv
 have:=(tK h hv).2 k hk
 omega
theorem sj{n:Nd}{xs:List Int}{ys:List Pr}{c:Int}(h:n.kind=3)(he:sQ n n.own xs (n.jZ xs) ys (n.jH ys))(h1:0<=n.main)(h2:0<=n.prev)(h3:0<=n.status)(eo:yX n.bm=c)(hp:Pos xs):((xs.length:Int)==c)=true↔cC n xs ys:=by
 rw[beq_iff_eq,<- eo]
 exact⟨λ hl=>⟨he,h1,h2,h3,.inr (.inr (.inl ⟨h,hl,hp⟩))⟩,λ hv=>(tK h hv).1⟩
theorem zY{n:Nd}{xs:List Int}{ys:List Pr}{w:World}{b:Nat}(hb:n.bm=(b:Int))(hb2:b<18446744073709551616)(hr:sG w n xs ys) :
  Calls Tryz.prog 126 #[n.v] w λ e w'=>∃r:Bool,e=.returned (.bool r)/\(r=true↔cC n xs ys)/\St w [] [] w':=by
 have e1:=hr.brN;have e2:=hr.prN
 obtain⟨kind,gen,main,bm,brA,brN,brC,hash,key,val,prA,prN,prK,prev,bK,exp,new,status⟩:=n
 simp only at e1 e2 hb
 subst e1 e2 hb
 have eo:yX (b:Int)=((gC b 64:Nat):Int):=sM hb2
 have hxl:=hr.brS
 refine enter Tryz.func126 Tryz.ntmps126 rfl rfl (SF.s2 hr.br hr.pr) ?_
 simp only[cG]
 simp only[Nd.v,Nd.cells]
 refine J0 ?_;refine bM (λ x1=>?_);refine iT ?_;refine aV ?_;refine eH [(0,[]),(1,[]),(2,[]),(3,[]),(4,[]),(5,[]),(6,[]),(7,[]),(8,[]),(9,[]),(10,[]),(11,[9]),(12,[]),(13,[]),(14,[]),(15,[]),(16,[]),(17,[]),(18,[]),(19,[]),(20,[]),(21,[]),(22,[]),(23,[]),(24,[]),(25,[]),(26,[]),(27,[]),(28,[]),(29,[])] ?_;refine lK ?_;refine Di ?_;refine aR ?_
 (refine qa 7 (λ g7=>?_) (λ g7=>?_)<;>(first|refine fQ ?_|(refine aW ?_)))
 all_goals ((first|refine fQ ?_|(refine bS ?_));(first|refine fQ ?_|(refine aBZ ?_));refine kY ?_;refine aR ?_)
 all_goals (first|refine fQ ?_|(refine qa 12 (λ g12=>?_) (λ g12=>?_)<;>(first|refine fQ ?_|(refine bS ?_))))
 all_goals ((first|refine fQ ?_|(refine bS ?_));(first|refine fQ ?_|(refine dC (i:=11) (hq:=(cV (hc:=λ w1 hw=>zn (⟨kind,gen,main,(b:Int),brA,xs.length,brC,hash,key,val,prA,ys.length,prK,prev,bK,exp,new,status⟩:Nd) (show(1:Int)<=kind by omega) (show kind<=8 by omega) w1))) (h:=λ x15=>?_)));(first|refine fQ ?_|(refine bE (i:=12) (hq:=(c0 (V:=.bool) (hc:=λ w1 hw=>po (a:=(⟨kind,gen,main,(b:Int),brA,xs.length,brC,hash,key,val,prA,ys.length,prK,prev,bK,exp,new,status⟩:Nd)) (b:=((⟨kind,gen,main,(b:Int),brA,xs.length,brC,hash,key,val,prA,ys.length,prK,prev,bK,exp,new,status⟩:Nd)).own) (hr.gH hw.done) (hr.gH hw.done).own))) (h:=λ x16 h16=>?_)));(first|refine fQ ?_|(refine W1 ?_));refine kY ?_;refine aR ?_)
 all_goals (first|refine fQ ?_|(refine qa 19 (λ g19=>?_) (λ g19=>?_)<;>(first|refine fQ ?_|(refine aW ?_))))
 all_goals ((first|refine fQ ?_|(refine bS ?_));(first|refine fQ ?_|(refine Di ?_));refine kY ?_;refine aR ?_)
 all_goals (first|refine fQ ?_|(refine qa 24 (λ g24=>?_) (λ g24=>?_)<;>(first|refine fQ ?_|(refine aW ?_))))
 all_goals ((first|refine fQ ?_|(refine bS ?_));(first|refine fQ ?_|(refine Di ?_));refine kY ?_;refine aR ?_)
 all_goals (first|refine fQ ?_|(refine qa 29 (λ g29=>?_) (λ g29=>?_)<;>(first|refine fQ ?_|(refine aW ?_))))
 all_goals ((first|refine fQ ?_|(refine bS ?_));(first|refine fQ ?_|(refine Di ?_));refine kY ?_;refine eL ?_)
 all_goals
 refine bC (λ c33=>?_) (λ c33=>?_)
 ·all_goals refine dA ?_
  all_goals
   refine aT Tryz.results126 (λ w hw=>?_)
   refine⟨_,rfl,?_,hw.done⟩
   first|(simp_all[cC];done)|(simp_all[cC];omega)
 ·try exact nv c33
  all_goals (refine kZ ?_;refine iH ?_;refine aI ?_;refine cW ?_;refine mB ?_)
  all_goals
   refine bC (λ c36=>?_) (λ c36=>?_)
   ·refine iH ?_;refine oG ?_;refine J1 ?_
    refine aT Tryz.results126 (λ w hw=>?_)
    refine⟨_,rfl,?_,hw.done⟩
    (simp_all[cC];done)
   ·refine mB ?_
    refine bC (λ c41=>?_) (λ c41=>?_)
    ·refine aV ?_;refine D8 ?_
     refine iF [2,3,43,44,45,46,47,48,49,50,51,52,53,54,55] (λ k=>[(3,.int .i64 ((k:Nat):Int))]) (λ k=>k<=xs.length/\∀i,i<k->1<=xs.getD i 0) (λ k=>xs.length-k) (0) (⟨Nat.zero_le _,λ i hi=>absurd hi (Nat.not_lt_zero i)⟩) ?_ (λ k f hx=>?_)
     ·repeat (first|exact bJ _|refine bF (by exact rfl) ?_)
     dsimp only[iC,List.map,List.cons_append,List.nil_append]
     refine kT ?_;refine Rr ?_;refine Bi ?_
     refine bC (λ c47=>?_) (λ c47=>?_)
     ·refine rY ?_;refine Kb9 ?_;refine Rw ?_;refine Bi ?_
      refine bC (λ c55=>?_) (λ c55=>?_)
      ·refine dA ?_
       refine aT Tryz.results126 (λ w hw=>?_)
       refine⟨_,rfl,?_,hw.done⟩
       exact gi c41 (k:=k) (by omega) (by assumption)
      ·refine Kc1 ?_
       refine fP (k+1) ?_ ?_ ?_
       ·omega
       ·repeat' (first|exact bJ _|refine bF ?_ ?_)
        exact rfl
       ·exact⟨by omega,λ i hi=>by rcases Nat.lt_succ_iff_lt_or_eq.1 hi with h|rfl;exact hx.2 i h;omega⟩
     ·refine bT rfl ?_;refine aV ?_;refine eH [(0,[]),(1,[]),(2,[]),(3,[]),(4,[]),(5,[1]),(6,[]),(7,[])] ?_;refine lK ?_;refine oE ?_;refine lK ?_;refine dC (i:=5) (hq:=(cV (hc:=λ w1 hw=>R8 hb2 w1))) (h:=λ x61=>?_);refine oJ ?_;refine J7 ?_
      refine aT Tryz.results126 (λ w hw=>?_)
      refine⟨_,rfl,?_,hw.done⟩
      exact sj c41 (h16.1 (by simpa using g19)) (show 0<=main by omega) (show 0<=prev by omega) (show 0<=status by omega) eo (λ i hi=>hx.2 i (by omega))
    ·refine aV ?_;refine mB ?_
     refine bC (λ c63=>?_) (λ c63=>?_)
     ·refine aZ ?_
      refine bC (λ c63=>?_) (λ c63=>?_)
      ·refine iH ?_;refine mH ?_;refine A2 ?_;refine J1 ?_
       refine aT Tryz.results126 (λ w hw=>?_)
       refine⟨_,rfl,?_,hw.done⟩
       (simp_all[cC];omega)
      ·refine mB ?_
       refine bC (λ c70=>?_) (λ c70=>?_)
       ·refine iH ?_;refine dS ?_;refine oG ?_;refine aB ?_
        (refine eI 76 (λ g76=>?_) (λ g76=>?_)<;>refine Ka1 ?_)
        all_goals (refine Ka2 ?_;(first|refine aJ ?_|(refine aF ?_;refine aE (c0 (V:=.bool) (hc:=λ w1 hw=>mS (hw.cl fin) hr.prS)) (λ x79 h79=>?_)));refine Ka6 ?_)
        all_goals (first|refine aJ ?_|(refine eI 81 (λ g81=>?_) (λ g81=>?_)<;>refine Ka1 ?_))
        all_goals (refine Ka2 ?_;(first|refine aJ ?_|(refine aF ?_;refine aE (c0 (V:=.bool) (hc:=λ w1 hw=>lh (hw.cl fin) hr.prS)) (λ x84 h84=>?_)));refine Kb7 ?_)
        all_goals
        refine aT Tryz.results126 (λ w hw=>?_)
        refine⟨_,rfl,?_,hw.done⟩
        (simp_all[cC];done)
       ·refine mB ?_
        refine bC (λ c86=>?_) (λ c86=>?_)
        ·refine iH ?_;refine oG ?_;refine J1 ?_
         refine aT Tryz.results126 (λ w hw=>?_)
         refine⟨_,rfl,?_,hw.done⟩
         (simp_all[cC];done)
        ·refine mB ?_
         refine bC (λ c91=>?_) (λ c91=>?_)
         ·refine iH ?_;refine oG ?_;refine aB ?_
          (refine eI 96 (λ g96=>?_) (λ g96=>?_)<;>refine Ka1 ?_)
          all_goals (refine J86 ?_;refine Ka6 ?_)
          all_goals (first|refine aJ ?_|(refine eI 101 (λ g101=>?_) (λ g101=>?_)<;>refine Ka1 ?_))
          all_goals (refine J86 ?_;refine Kb7 ?_)
          all_goals
          refine aT Tryz.results126 (λ w hw=>?_)
          refine⟨_,rfl,?_,hw.done⟩
          (simp_all[cC];done)
         ·refine Kb0 ?_
          refine aT Tryz.results126 (λ w hw=>?_)
          refine⟨_,rfl,?_,hw.done⟩
          (simp_all[cC];done)
     ·refine dR ?_;refine Rt ?_
      refine bC (λ c63=>?_) (λ c63=>?_)
      ·refine iH ?_;refine mH ?_;refine A2 ?_;refine J1 ?_
       refine aT Tryz.results126 (λ w hw=>?_)
       refine⟨_,rfl,?_,hw.done⟩
       (simp_all[cC];omega)
      ·refine mB ?_
       refine bC (λ c70=>?_) (λ c70=>?_)
       ·refine iH ?_;refine dS ?_;refine oG ?_;refine aB ?_
        (refine eI 76 (λ g76=>?_) (λ g76=>?_)<;>refine Ka1 ?_)
        all_goals (refine Ka2 ?_;(first|refine aJ ?_|(refine aF ?_;refine aE (c0 (V:=.bool) (hc:=λ w1 hw=>mS (hw.cl fin) hr.prS)) (λ x79 h79=>?_)));refine Ka6 ?_)
        all_goals (first|refine aJ ?_|(refine eI 81 (λ g81=>?_) (λ g81=>?_)<;>refine Ka1 ?_))
        all_goals (refine Ka2 ?_;(first|refine aJ ?_|(refine aF ?_;refine aE (c0 (V:=.bool) (hc:=λ w1 hw=>lh (hw.cl fin) hr.prS)) (λ x84 h84=>?_)));refine Kb7 ?_)
        all_goals
        refine aT Tryz.results126 (λ w hw=>?_)
        refine⟨_,rfl,?_,hw.done⟩
        first|(simp_all[cC];done)|(simp_all[cC];omega)
       ·refine mB ?_
        refine bC (λ c86=>?_) (λ c86=>?_)
        ·refine iH ?_;refine oG ?_;refine J1 ?_
         refine aT Tryz.results126 (λ w hw=>?_)
         refine⟨_,rfl,?_,hw.done⟩
         (simp_all[cC];done)
        ·refine mB ?_
         refine bC (λ c91=>?_) (λ c91=>?_)
         ·refine iH ?_;refine oG ?_;refine aB ?_
          (refine eI 96 (λ g96=>?_) (λ g96=>?_)<;>refine Ka1 ?_)
          all_goals (refine J86 ?_;refine Ka6 ?_)
          all_goals (first|refine aJ ?_|(refine eI 101 (λ g101=>?_) (λ g101=>?_)<;>refine Ka1 ?_))
          all_goals (refine J86 ?_;refine Kb7 ?_)
          all_goals
          refine aT Tryz.results126 (λ w hw=>?_)
          refine⟨_,rfl,?_,hw.done⟩
          first|(simp_all[cC];done)|(simp_all[cC];omega)
         ·refine Kb0 ?_
          refine aT Tryz.results126 (λ w hw=>?_)
          refine⟨_,rfl,?_,hw.done⟩
          (simp_all[cC];omega)
end
end Go.Proofs.YtbajmaoegmbfgaaGreat
