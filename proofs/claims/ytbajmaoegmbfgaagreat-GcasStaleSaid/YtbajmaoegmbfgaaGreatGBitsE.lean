/- Merged. -/
import Derived.Test.YtbajmaoegmbfgaaGreatGMem
import Derived.Test.YtbajmaoegmbfgaaGreatGPa1
import Derived.Test.YtbajmaoegmbfgaaGreatGNode4
import Derived.Test.YtbajmaoegmbfgaaGreatAuto
set_option linter.unusedSimpArgs false
set_option linter.unusedVariables false
namespace Go.Ct
open Go Go.RowKit
section
theorem aCp{x a b:Nat}(ha:a<256)(h:x=a+256*b):x/256=b:=by omega
theorem aCm{x a b:Nat}(ha:a<65536)(h:x=a+65536*b):x/65536=b:=by omega
theorem aCk{x a b:Nat}(ha:a<4294967296)(h:x=a+4294967296*b):x/4294967296=b:=by omega
theorem xo{t p s B:Nat}(e:t=p+256*s)(hp:p<=8)(hs:s<=B):t<=8+256*B:=by omega
theorem fa{r t1 t2 t3 p0 p1 p2:Nat}(e0:r=p0+256*t1)(e1:t1=p1+256*t2)(e2:t2=p2+256*t3):r+t1=((p0+p1)+256*(p1+p2))+65536*(t2+t3):=by omega
theorem ca{p0 p1 p2:Nat}(g0:p0<=8)(g1:p1<=8)(g2:p2<=8):(p0+p1)+256*(p1+p2)<65536:=by omega
theorem fb0{t2 t3 t4 t5 t6 t7 p2 p3 p4 p5 p6:Nat}(e2:t2=p2+256*t3)(e3:t3=p3+256*t4)(e4:t4=p4+256*t5)(e5:t5=p5+256*t6)(e6:t6=p6+256*t7):t2+t3+t4+t5=(p2+p3+p4+p5)+256*(p3+p4+p5+p6)+65536*(t4+t5+t6+t7):=by
 subst e6
 omega
theorem fb{r t1 t2 t3 t4 t5 t6 t7 p0 p1 p2 p3 p4 p5 p6:Nat}(f4:r+t1=((p0+p1)+256*(p1+p2))+65536*(t2+t3))(e2:t2=p2+256*t3)(e3:t3=p3+256*t4)(e4:t4=p4+256*t5)(e5:t5=p5+256*t6)(e6:t6=p6+256*t7) :
  r+t1+(t2+t3)=((p0+p1+p2+p3)+256*(p1+p2+p3+p4)+65536*(p2+p3+p4+p5)+16777216*(p3+p4+p5+p6))+4294967296*(t4+t5+t6+t7):=by
 have h1:=fb0 e2 e3 e4 e5 e6
 have h2:t2+t3=(p2+p3)+256*(t3+t4):=by clear h1 f4 e4 e5 e6;omega
 have h3:t3+t4=(p3+p4)+256*(t4+t5):=by clear h1 h2 f4 e2 e5 e6;omega
 clear e2 e3 e4 e5 e6
 omega
theorem cb{p0 p1 p2 p3 p4 p5 p6:Nat}(g0:p0<=8)(g1:p1<=8)(g2:p2<=8)(g3:p3<=8)(g4:p4<=8)(g5:p5<=8)(g6:p6<=8):(p0+p1+p2+p3)+256*(p1+p2+p3+p4)+65536*(p2+p3+p4+p5)+16777216*(p3+p4+p5+p6)<4294967296:=by omega
theorem fc{r t1:Nat}(b0:r<=8+256*(8+256*(8+256*(8+256*(8+256*(8+256*(8+256*8)))))))(b1:t1<=8+256*(8+256*(8+256*(8+256*(8+256*(8+256*8)))))):r+t1<9223372036854775808:=by omega
theorem fd{r t1 t2 t3:Nat}(b0:r<=8+256*(8+256*(8+256*(8+256*(8+256*(8+256*(8+256*8)))))))(b1:t1<=8+256*(8+256*(8+256*(8+256*(8+256*(8+256*8))))))(b2:t2<=8+256*(8+256*(8+256*(8+256*(8+256*8)))))(b3:t3<=8+256*(8+256*(8+256*(8+256*8)))):r+t1+(t2+t3)<9223372036854775808:=by omega
theorem fe{p1 p2 p3 p4 p5 p6 t4 t5 t6 t7:Nat}(g1:p1<=8)(g2:p2<=8)(g3:p3<=8)(g4:p4<=8)(g5:p5<=8)(g6:p6<=8)(b4:t4<=8+256*(8+256*(8+256*8)))(b5:t5<=8+256*(8+256*8))(b6:t6<=8+256*8)(b7:t7<=8) :
  (p1+p2+p3+p4)+256*(p2+p3+p4+p5)+65536*(p3+p4+p5+p6)+16777216*(t4+t5+t6+t7)+(t5+t6+t7)<36028797018963968:=by omega
theorem ff{p0 p1 p2 p3 p4 p5 p6 p7 t4 t5 t6 t7:Nat}(e4:t4=p4+256*t5)(e5:t5=p5+256*t6)(e6:t6=p6+256*t7)(e7:t7=p7) :
  ((p0+p1+p2+p3)+256*(p1+p2+p3+p4)+65536*(p2+p3+p4+p5)+16777216*(p3+p4+p5+p6))+4294967296*(t4+t5+t6+t7)+(t4+t5+t6+t7) =
   (p0+p1+p2+p3+p4+p5+p6+p7)+256*((p1+p2+p3+p4)+256*(p2+p3+p4+p5)+65536*(p3+p4+p5+p6)+16777216*(t4+t5+t6+t7)+(t5+t6+t7)):=by
 have h:t4+t5+t6+t7=(p4+p5+p6+p7)+256*(t5+t6+t7):=by omega
 generalize t4+t5+t6+t7=s at *
 clear e4 e5 e6 e7
 omega
theorem Z9{p0 p1 p2 p3 p4 p5 p6 p7 r t1 t2 t3 t4 t5 t6 t7:Nat}(g0:p0<=8)(g1:p1<=8)(g2:p2<=8)(g3:p3<=8)(g4:p4<=8)(g5:p5<=8)(g6:p6<=8)(g7:p7<=8)
  (e0:r=p0+256*t1) (e1:t1=p1+256*t2) (e2:t2=p2+256*t3) (e3:t3=p3+256*t4) (e4:t4=p4+256*t5) (e5:t5=p5+256*t6) (e6:t6=p6+256*t7) (e7:t7=p7) :
  r+r/256<9223372036854775808/\(r+r/256)+(r+r/256)/65536<9223372036854775808/\∃K,K<36028797018963968/\((r+r/256)+(r+r/256)/65536)+((r+r/256)+(r+r/256)/65536)/4294967296=(p0+p1+p2+p3+p4+p5+p6+p7)+256*K:=by
 have b7:t7<=8:=by rw[e7];exact g7
 have b6:=xo e6 g6 b7
 have b5:=xo e5 g5 b6
 have b4:=xo e4 g4 b5
 have b3:=xo e3 g3 b4
 have b2:=xo e2 g2 b3
 have b1:=xo e1 g1 b2
 have b0:=xo e0 g0 b1
 have f4:r+t1=((p0+p1)+256*(p1+p2))+65536*(t2+t3):=fa e0 e1 e2
 have c4:(p0+p1)+256*(p1+p2)<65536:=ca g0 g1 g2
 have f5:r+t1+(t2+t3)=((p0+p1+p2+p3)+256*(p1+p2+p3+p4)+65536*(p2+p3+p4+p5)+16777216*(p3+p4+p5+p6))+4294967296*(t4+t5+t6+t7):=fb f4 e2 e3 e4 e5 e6
 have c5:=cb g0 g1 g2 g3 g4 g5 g6
 rw[aCp (Nat.lt_of_le_of_lt g0 (by decide)) e0,aCm c4 f4,aCk c5 f5]
 refine⟨fc b0 b1,fd b0 b1 b2 b3,(p1+p2+p3+p4)+256*(p2+p3+p4+p5)+65536*(p3+p4+p5+p6)+16777216*(t4+t5+t6+t7)+(t5+t6+t7),?_,?_⟩
 ·exact fe g1 g2 g3 g4 g5 g6 b4 b5 b6 b7
 ·rw[f5];exact ff e4 e5 e6 e7
end
section
theorem xp{c K:Nat}(hc:c<=64)(hK:K<36028797018963968):pQ .i64 (IntKind.i64.wrap ((c+256*K:Nat):Int)) 127=(c:Int):=by
 rw[wrap_i64 (by omega) (by omega)]
 unfold pQ
 have h1:(BitVec.ofInt IntKind.i64.bits ((c+256*K:Nat):Int)).toNat=c+256*K:=by
  show(BitVec.ofInt 64 ((c+256*K:Nat):Int)).toNat=_
  rw[BitVec.toNat_ofInt]
  omega
 have h2:(BitVec.ofInt IntKind.i64.bits 127).toNat=127:=by decide
 rw[BitVec.toNat_and,h1,h2,show(127:Nat)=2^7-1 from rfl,Nat.and_two_pow_sub_one_eq_mod]
 have h3:(c+256*K)%2^7=c:=by omega
 rw[h3]
 exact wrap_i64 (by omega) (by omega)
theorem sI{n:Nat}(hn:n<18446744073709551616):yT (n:Int)=((gA n 64:Nat):Int):=by
 obtain⟨r,h1,ps,h2,h3,h4,h5⟩:=H9 8 n hn
 obtain⟨q1,q2,_⟩:=h1 _ rfl
 match ps,h2 with
 | [p0,p1,p2,p3,p4,p5,p6,p7],_ =>
  simp only[List.mem_cons,List.not_mem_nil,or_false,forall_eq_or_imp,forall_eq] at h3
  simp only[List.foldr_cons,List.foldr_nil] at h4
  simp only[List.sum_cons,List.sum_nil] at h5
  obtain⟨g0,g1,g2,g3,g4,g5,g6,g7⟩:=h3
  have b5:kV 1 6148914691236517205 n<18446744073709551616:=by
   unfold kV
   have h1:(n >>> 1) &&& 6148914691236517205<=6148914691236517205:=Nat.and_le_right
   have h2:n &&& 6148914691236517205<=6148914691236517205:=Nat.and_le_right
   omega
  have e1:∀m:Nat,m<18446744073709551616->IntKind.u64.wrap (pQ .u64 (qA .u64 (m:Int) 1) 6148914691236517205+pQ .u64 (m:Int) 6148914691236517205)=((kV 1 6148914691236517205 m:Nat):Int):=λ m hm=>by
   have hs:m >>> 1<18446744073709551616:=Nat.lt_of_le_of_lt (Nat.shiftRight_le _ _) hm
   have r1:qA .u64 (m:Int) 1=((m >>> 1:Nat):Int):=qN (i:=1) (by decide)
   have a1:pQ .u64 ((m >>> 1:Nat):Int) 6148914691236517205=(((m >>> 1) &&& 6148914691236517205:Nat):Int):=qB hs (m:=6148914691236517205) (by decide)
   have a2:pQ .u64 (m:Int) 6148914691236517205=((m &&& 6148914691236517205:Nat):Int):=qB hm (m:=6148914691236517205) (by decide)
   rw[r1,a1,a2,<- Int.natCast_add]
   refine nR ?_
   have h1:(m >>> 1) &&& 6148914691236517205<=6148914691236517205:=Nat.and_le_right
   have h2:m &&& 6148914691236517205<=6148914691236517205:=Nat.and_le_right
   omega
  have e2:∀m:Nat,m<18446744073709551616->IntKind.u64.wrap (pQ .u64 (qA .u64 (m:Int) 2) 3689348814741910323+pQ .u64 (m:Int) 3689348814741910323)=((kV 2 3689348814741910323 m:Nat):Int):=λ m hm=>by
   have hs:m >>> 2<18446744073709551616:=Nat.lt_of_le_of_lt (Nat.shiftRight_le _ _) hm
   have r1:qA .u64 (m:Int) 2=((m >>> 2:Nat):Int):=qN (i:=2) (by decide)
   have a1:pQ .u64 ((m >>> 2:Nat):Int) 3689348814741910323=(((m >>> 2) &&& 3689348814741910323:Nat):Int):=qB hs (m:=3689348814741910323) (by decide)
   have a2:pQ .u64 (m:Int) 3689348814741910323=((m &&& 3689348814741910323:Nat):Int):=qB hm (m:=3689348814741910323) (by decide)
   rw[r1,a1,a2,<- Int.natCast_add]
   refine nR ?_
   have h1:(m >>> 2) &&& 3689348814741910323<=3689348814741910323:=Nat.and_le_right
   have h2:m &&& 3689348814741910323<=3689348814741910323:=Nat.and_le_right
   omega
  have m5:sA 85 8=6148914691236517205:=by decide
  have m3:sA 51 8=3689348814741910323:=by decide
  have mf:sA 15 8=1085102592571150095:=by decide
  rw[m5,m3] at q1 q2
  rw[mf] at q1
  unfold yT
  simp only[]
  rw[e1 n hn,e2 _ b5]
  generalize kV 2 3689348814741910323 (kV 1 6148914691236517205 n)=Q at *
  have hQ:Q<18446744073709551616:=q2
  have hr:r<18446744073709551616:=by rw[<- q1];exact Nat.lt_of_le_of_lt Nat.and_le_right (by decide)
  have e3:pQ .u64 (IntKind.u64.wrap (qA .u64 (Q:Int) 4+(Q:Int))) 1085102592571150095=(r:Int):=by
   have r1:qA .u64 (Q:Int) 4=((Q >>> 4:Nat):Int):=qN (i:=4) (by decide)
   rw[r1,<- Int.natCast_add]
   have h2:IntKind.u64.wrap ((Q >>> 4+Q:Nat):Int)=(((Q >>> 4+Q)%18446744073709551616:Nat):Int):=by
    have:IntKind.u64.wrap ((Q >>> 4+Q:Nat):Int)=((Q >>> 4+Q:Nat):Int)%18446744073709551616:=by simp[IntKind.wrap,IntKind.signed,IntKind.bits]
    rw[this];omega
   rw[h2]
   have a1:=qB (n:=(Q >>> 4+Q)%18446744073709551616) (m:=1085102592571150095) (Nat.mod_lt _ (by decide)) (by decide)
   refine a1.trans ?_
   rw[<- q1]
   congr 1
   refine Nat.eq_of_testBit_eq λ i=>?_
   rw[Nat.testBit_and,Nat.testBit_and,show(18446744073709551616:Nat)=2^64 from rfl,Nat.testBit_mod_two_pow]
   by_cases hi:i<64
   ·simp[hi]
   ·have:(1085102592571150095:Nat).testBit i=false:=Nat.testBit_lt_two_pow (Nat.lt_of_lt_of_le (by decide:(1085102592571150095:Nat)<2^64) (Nat.pow_le_pow_right (by decide) (by omega)))
    rw[this];simp
  rw[e3]
  have s1:∀m:Nat,qA .u64 (m:Int) 8=((m/256:Nat):Int):=λ m=>by
   have:qA .u64 (m:Int) 8=((m >>> 8:Nat):Int):=qN (i:=8) (by decide)
   rw[this,Nat.shiftRight_eq_div_pow]
  have s2:∀m:Nat,qA .u64 (m:Int) 16=((m/65536:Nat):Int):=λ m=>by
   have:qA .u64 (m:Int) 16=((m >>> 16:Nat):Int):=qN (i:=16) (by decide)
   rw[this,Nat.shiftRight_eq_div_pow]
  have s3:∀m:Nat,qA .u64 (m:Int) 32=((m/4294967296:Nat):Int):=λ m=>by
   have:qA .u64 (m:Int) 32=((m >>> 32:Nat):Int):=qN (i:=32) (by decide)
   rw[this,Nat.shiftRight_eq_div_pow]
  have w64:∀m:Nat,m<9223372036854775808->IntKind.u64.wrap ((m:Nat):Int)=(m:Int):=λ m hm=>nR (by omega)
  have hs:gA n 64=p0+p1+p2+p3+p4+p5+p6+p7:=by rw[show(64:Nat)=8*8 from rfl,<- h5];omega
  have hc:=zE n 64
  have hx:=Z9 (t7:=p7) (t6:=p6+256*p7) (t5:=p5+256*(p6+256*p7)) (t4:=p4+256*(p5+256*(p6+256*p7))) (t3:=p3+256*(p4+256*(p5+256*(p6+256*p7)))) (t2:=p2+256*(p3+256*(p4+256*(p5+256*(p6+256*p7))))) (t1:=p1+256*(p2+256*(p3+256*(p4+256*(p5+256*(p6+256*p7)))))) (r:=r) g0 g1 g2 g3 g4 g5 g6 g7 (by rw[h4];rfl) rfl rfl rfl rfl rfl rfl rfl
  clear h4 q1 q2 e3 e1 e2 b5 h1 hr hQ hn m5 m3 mf h5
  obtain⟨x4,x5,K,hK,x6⟩:=hx
  rw[s1,<- Int.natCast_add,w64 _ x4,s2,<- Int.natCast_add,w64 _ x5,s3,<- Int.natCast_add,x6,<- hs,w64 _ (by omega)]
  exact xp hc hK
end
section
def qD(n:Nat)(i:Int):Bool:=decide (0<=i)&&(decide (i<64)&&n.testBit i.toNat)
theorem uj(n:Nat){i:Int}(h:i<0):qD n i=false:=by simp[qD];omega
theorem W9(n:Nat){i:Int}(h:64<=i):qD n i=false:=by simp[qD];omega
theorem sZ(n:Nat){i:Int}(h0:0<=i)(h1:i<64):qD n i=n.testBit i.toNat:=by simp[qD,h0,h1]
theorem uo{n:Nat}(hn:n<18446744073709551616){i:Int}(h0:0<=i)(h1:i<64):(pQ .u64 (qA .u64 (n:Int) i) 1==1)=qD n i:=by
 obtain⟨k,rfl⟩:=Int.eq_ofNat_of_zero_le h0
 rw[sZ n h0 h1,qN (by omega)]
 have h2:pQ .u64 ((n >>> k:Nat):Int) 1=(((n >>> k) &&& 1:Nat):Int):=qB (Nat.lt_of_le_of_lt (Nat.shiftRight_le _ _) hn) (m:=1) (by decide)
 rw[h2]
 simp only[Int.toNat_natCast,Nat.testBit,Nat.and_comm 1]
 rw[Nat.and_one_is_mod]
 rcases Nat.mod_two_eq_zero_or_one (n >>> k) with h|h<;>rw[h]<;>rfl
def rO(n:Nat)(i:Int):Nat:=gA n (min i.toNat 64)
def dU(n:Nat)(i:Int):Nat:=if 0<=i/\i<64 then n ||| 2^i.toNat else n
def wS(n:Nat)(i:Int):Nat:=if 0<=i/\i<64 then n ^^^ (n &&& 2^i.toNat) else n
theorem gi{n:Nat}(hn:n<18446744073709551616){i:Int}(h0:0<=i)(h1:i<64):rOr .u64 (n:Int) (cg .u64 1 i)=((dU n i:Nat):Int):=by
 obtain⟨k,rfl⟩:=Int.eq_ofNat_of_zero_le h0
 have hp:=Nat.pow_lt_pow_right (a:=2) (by decide) (show k<64 by omega)
 rw[cy (by omega),rh hn (by omega),dU,if_pos ⟨h0,h1⟩]
 rfl
theorem A4{n:Nat}(hn:n<18446744073709551616)(i:Int):dU n i<18446744073709551616:=by
 unfold dU
 split
 ·rename_i h
  have hp:=Nat.pow_lt_pow_right (a:=2) (by decide) (show i.toNat<64 by omega)
  exact Nat.or_lt_two_pow (n:=64) hn hp
 ·exact hn
end
end Go.Ct
namespace Go.Proofs.YtbajmaoegmbfgaaGreat
open Go.RowKit Go.Ct
section
theorem Hh{n:Nat}(hn:n<18446744073709551616)(i:Int)(w:World):Calls Tryz.prog 195 #[.int .u64 (n:Int),.int .i64 i] w λ e w'=>e=.returned (.bool (qD n i))/\St w [] [] w':=by
 refine enter Tryz.func195 Tryz.ntmps195 rfl rfl (SF.s0 w) ?_
 simp only[cC]
 refine Kc5 ?_;refine oG ?_;refine aA ?_
 (refine eJ 7 (λ g7=>?_) (λ g7=>?_)<;>refine Ka0 ?_)
 all_goals (refine uv ?_;refine aA ?_)
 all_goals (first|refine aI ?_|(refine eJ 11 (λ g11=>?_) (λ g11=>?_)<;>refine Ka0 ?_))
 all_goals (refine Ka0 ?_;(first|refine aI ?_|(refine aE ?_;refine nN ?_));(first|refine aI ?_|(refine aE ?_;refine G0 ?_));(first|refine aI ?_|(refine aE ?_;refine Gb ?_));refine wX ?_;refine J1 ?_)
 all_goals
 refine aR Tryz.results195 (λ w hw=>?_)
 first|(rw[uj n (by omega)];exact⟨rfl,hw.done⟩)|(rw[W9 n (by omega)];exact⟨rfl,hw.done⟩)|(rw[<- uo hn (by omega) (by omega)];exact⟨rfl,hw.done⟩)
theorem N6{n:Nat}(hn:n<18446744073709551616)(i:Int)(w:World):Calls Tryz.prog 207 #[.int .u64 (n:Int),.int .i64 i] w λ e w'=>e=.returned (.int .i64 ((rO n i:Nat):Int))/\St w [] [] w':=by
 refine enter Tryz.func207 Tryz.ntmps207 rfl rfl (SF.s0 w) ?_
 simp only[cC]
 refine cX ?_;refine Hg ?_;refine Ex ?_
 refine iD [5,6,7,8,9,10,11,12,13,14,15,16,17,18,19,20] (λ k=>[(5,.int .i64 ((gA n k:Nat):Int)),(6,.int .i64 ((k:Nat):Int))]) (λ k=>k<=64/\(k:Int)<=max i 0) (λ k=>64-k) (0) (⟨by decide,by omega⟩) ?_ (λ k f hx=>?_)
 ·repeat (first|exact bI _|refine bD (by exact rfl) ?_)
 dsimp only[hY,List.map,List.cons_append,List.nil_append]
 have hcl:=zE n k
 refine Kb6 ?_
 (refine eJ 9 (λ g9=>?_) (λ g9=>?_)<;>refine Ka0 ?_)
 all_goals (refine Ka0 ?_;refine uv ?_;refine aH ?_)
 all_goals
 refine bC (λ c13=>?_) (λ c13=>?_)
 ·try exact nv c13
  all_goals (refine rX ?_;refine jG ?_;refine aQ (cV (hc:=λ w1 hw=>Hh hn (k:Int) w1)) (λ x18=>?_);refine aH ?_)
  all_goals
   refine bC (λ c18=>?_) (λ c18=>?_)
   ·refine wN ?_;refine Kb2 ?_
    refine fM (k+1) ?_ ?_ ?_
    ·omega
    ·repeat' (first|exact bI _|refine bD ?_ ?_)
     all_goals (first|exact rfl|(rw[sZ n (by omega) (by omega),Int.toNat_natCast] at *;conv=>{lhs;whnf};congr 2;simp only[gA];simp_all;done))
    ·omega
   ·refine Kc0 ?_
    refine fM (k+1) ?_ ?_ ?_
    ·omega
    ·repeat' (first|exact bI _|refine bD ?_ ?_)
     all_goals (first|exact rfl|(rw[sZ n (by omega) (by omega),Int.toNat_natCast] at *;conv=>{lhs;whnf};congr 2;simp only[gA];simp_all;done))
    ·omega
 ·all_goals (refine bP rfl ?_;refine Ka4 ?_)
  all_goals
   refine aR Tryz.results207 (λ w hw=>?_)
   have:rO n i=gA n k:=by unfold rO;congr 1;omega
   rw[this]
   exact⟨rfl,hw.done⟩
theorem Tk{n:Nat}(hn:n<18446744073709551616)(w:World):Calls Tryz.prog 170 #[.int .u64 (n:Int)] w λ e w'=>e=.returned (.int .i64 ((gA n 64:Nat):Int))/\St w [] [] w':=by
 refine enter Tryz.func170 Tryz.ntmps170 rfl rfl (SF.s0 w) ?_
 simp only[cC]
 refine Kc5 ?_;refine aQ (cV (hc:=λ w1 hw=>N6 hn 64 w1)) (λ x4=>?_);refine J1 ?_
 refine aR Tryz.results170 (λ w hw=>?_)
 exact⟨rfl,hw.done⟩
theorem nW{n:Nat}(hn:n<18446744073709551616)(i:Int)(w:World):Calls Tryz.prog 254 #[.int .u64 (n:Int),.int .i64 i] w λ e w'=>e=.returned (.int .u64 ((dU n i:Nat):Int))/\St w [] [] w':=by
 refine enter Tryz.func254 Tryz.ntmps254 rfl rfl (SF.s0 w) ?_
 simp only[cC]
 refine cX ?_;refine Kb6 ?_
 (refine eJ 7 (λ g7=>?_) (λ g7=>?_)<;>refine Ka0 ?_)
 all_goals (refine Ka6 ?_)
 all_goals
 refine bC (λ c10=>?_) (λ c10=>?_)
 ·all_goals (refine Ka4 ?_)
  all_goals
   refine aR Tryz.results254 (λ w hw=>?_)
   (rw[show dU n i=n by unfold dU;rw[if_neg (by omega)]];exact⟨rfl,hw.done⟩)
 ·try exact nv c10
  all_goals (refine Dc ?_;refine nN ?_;refine aA6 ?_;refine aCr ?_;refine J1 ?_)
  all_goals
   refine aR Tryz.results254 (λ w hw=>?_)
   (rw[<- gi hn (by omega) (by omega)];exact⟨rfl,hw.done⟩)
end
end Go.Proofs.YtbajmaoegmbfgaaGreat
namespace Go.Ct
open Go Go.RowKit
section
def qS(b:Nat)(xs:List Int)(k:Nat):Option Int:=if b.testBit k=true then some (xs.getD (gA b k) 0) else none
def Be(m:Nat->Option Int):Nat->Nat
 | 0=>0
 | k+1=>if(m k).isSome=true then Be m k ||| 2^k else Be m k
def qF(m:Nat->Option Int):Nat->List Int
 | 0=>[]
 | k+1=>qF m k++(m k).toList
def Jg(m:Nat->Option Int)(i:Nat)(o:Option Int)(k:Nat):Option Int:=if k=i then o else m k
structure BV(b:Nat)(xs:List Int):Prop where
 lt:b<18446744073709551616
 len:xs.length=gA b 64
 pos:∀i,i<xs.length->1<=xs.getD i 0
theorem W4(m:Nat->Option Int)(j:Nat):∀k,(Be m k).testBit j=(decide (j<k)&&(m j).isSome)
 | 0=>by simp[Be]
 | k+1=>by
  have ih:=W4 m j k
  simp only[Be]
  by_cases hjk:j=k
  ·subst hjk
   by_cases h:(m j).isSome=true
   ·rw[if_pos h,Nat.testBit_or,Nat.testBit_two_pow];simp[h]
   ·rw[if_neg h,ih];simp at h;simp[h]
  ·have h2:(2^k).testBit j=false:=by rw[Nat.testBit_two_pow];exact decide_eq_false (λ h=>hjk h.symm)
   split
   ·rw[Nat.testBit_or,ih,h2,Bool.or_false]
    congr 1
    exact decide_eq_decide.2 (by omega)
   ·rw[ih]
    congr 1
    exact decide_eq_decide.2 (by omega)
theorem mz(m:Nat->Option Int):∀k,Be m k<2^k
 | 0=>by simp[Be]
 | k+1=>by
  have ih:=mz m k
  have h2:2^(k+1)=2^k+2^k:=by rw[Nat.pow_succ];omega
  simp only[Be]
  split
  ·refine Nat.or_lt_two_pow (by omega) ?_
   have:=Nat.two_pow_pos k
   omega
  ·omega
theorem Bp{xs:List Int}{i:Nat}(h:i<xs.length):xs.getD i 0∈xs:=by
 rw[iM,List.getElem?_eq_getElem h]
 exact List.getElem_mem h
theorem P9{m m':Nat->Option Int}:∀n,(∀k,k<n->m k=m' k)->Be m n=Be m' n/\qF m n=qF m' n
 | 0,_=>⟨rfl,rfl⟩
 | n+1,h=>by
  obtain⟨h1,h2⟩:=P9 n λ k hk=>h k (by omega)
  simp only[Be,qF,h1,h2,h n (by omega),and_self]
theorem wR(b:Nat)(k:Nat):∀d,gA b k<=gA b (k+d)
 | 0=>Nat.le_refl _
 | d+1=>by have:=wR b k d;rw[<- Nat.add_assoc];simp only[gA];omega
theorem oW{b k n:Nat}(h:k<n)(hb:b.testBit k=true):gA b k<gA b n:=by
 obtain⟨d,rfl⟩:=Nat.exists_eq_add_of_le (Nat.succ_le_of_lt h)
 have:=wR b (k+1) d
 simp only[gA,hb,if_true] at this
 exact this
theorem Vq{b:Nat}{xs:List Int}(h:xs.length=gA b 64):∀k,k<=64->qF (qS b xs) k=xs.take (gA b k)
 | 0,_=>by simp[qF,gA]
 | k+1,hk=>by
  have ih:=Vq h k (by omega)
  simp only[qF,ih,qS,gA]
  split
  ·rename_i hb
   have:=oW (n:=64) (by omega) hb
   rw[List.take_add_one,Option.toList,iM,List.getElem?_eq_getElem (by omega)]
   rfl
  ·simp
theorem S7{b:Nat}{xs:List Int}(h:BV b xs):Be (qS b xs) 64=b/\qF (qS b xs) 64=xs:=by
 refine⟨Nat.eq_of_testBit_eq λ j=>?_,?_⟩
 ·rw[W4]
  by_cases hj:j<64
  ·rw[decide_eq_true hj,Bool.true_and]
   unfold qS
   cases hb:b.testBit j<;>simp
  ·rw[decide_eq_false hj,Bool.false_and]
   exact(Nat.testBit_lt_two_pow (Nat.lt_of_lt_of_le h.lt (Nat.pow_le_pow_right (n:=2) (by decide) (show 64<=j by omega)))).symm
 ·rw[Vq h.len 64 (Nat.le_refl _),<- h.len,List.take_length]
theorem zY{b b' i:Nat}(h:b.testBit i=false)(hb:∀j,j<64->b'.testBit j=(b.testBit j||decide (j=i))):∀k,k<=64->gA b' k=gA b k+if i<k then 1 else 0
 | 0,_=>rfl
 | k+1,hk=>by
  have ih:=zY h hb k (by omega)
  simp only[gA,ih,hb k (by omega)]
  by_cases hki:k=i
  ·subst hki
   simp[h]
  ·have:decide (k=i)=false:=decide_eq_false hki
   rw[this,Bool.or_false]
   have e:(i<k+1)↔(i<k):=by omega
   simp only[e]
   omega
def wI(xs:List Int)(p:Nat)(r:Int):List Int:=xs.take p++r::xs.drop p
def qT(xs:List Int)(p:Nat)(r:Int):List Int:=xs.take p++r::xs.drop (p+1)
def sG(xs:List Int)(p:Nat):List Int:=xs.take p++xs.drop (p+1)
theorem Hk{xs:List Int}{p:Nat}(hp:p<=xs.length)(r:Int):(wI xs p r).length=xs.length+1:=by
 simp[wI];omega
theorem wA{xs:List Int}{p:Nat}(hp:p<xs.length)(r:Int):(qT xs p r).length=xs.length:=by
 simp[qT];omega
theorem Hf{xs:List Int}{p:Nat}(hp:p<xs.length):(sG xs p).length+1=xs.length:=by
 simp[sG];omega
theorem We{xs:List Int}{p:Nat}(hp:p<=xs.length)(r:Int)(q:Nat):(wI xs p r).getD q 0=if q<p then xs.getD q 0 else if q=p then r else xs.getD (q-1) 0:=by
 simp only[wI,iM]
 by_cases h1:q<p
 ·rw[if_pos h1,List.getElem?_append_left (by simp;omega),List.getElem?_take_of_lt h1]
 ·rw[if_neg h1,List.getElem?_append_right (by simp;omega)]
  have:(xs.take p).length=p:=by simp;omega
  rw[this]
  by_cases h2:q=p
  ·subst h2;simp
  ·obtain⟨d,hd⟩:∃d,q-p=d+1:=⟨q-p-1,by omega⟩
   rw[if_neg h2,hd,List.getElem?_cons_succ,List.getElem?_drop]
   congr 2
   omega
theorem L8{xs:List Int}{p:Nat}(hp:p<xs.length)(r:Int)(q:Nat):(qT xs p r).getD q 0=if q=p then r else xs.getD q 0:=by
 simp only[qT,iM]
 by_cases h1:q<p
 ·rw[if_neg (by omega),List.getElem?_append_left (by simp;omega),List.getElem?_take_of_lt h1]
 ·rw[List.getElem?_append_right (by simp;omega)]
  have:(xs.take p).length=p:=by simp;omega
  rw[this]
  by_cases h2:q=p
  ·subst h2;simp
  ·obtain⟨d,hd⟩:∃d,q-p=d+1:=⟨q-p-1,by omega⟩
   rw[if_neg h2,hd,List.getElem?_cons_succ,List.getElem?_drop]
   congr 2
   omega
theorem Wz{xs:List Int}{p:Nat}(hp:p<xs.length)(q:Nat):(sG xs p).getD q 0=if q<p then xs.getD q 0 else xs.getD (q+1) 0:=by
 simp only[sG,iM]
 by_cases h1:q<p
 ·rw[if_pos h1,List.getElem?_append_left (by simp;omega),List.getElem?_take_of_lt h1]
 ·rw[if_neg h1,List.getElem?_append_right (by simp;omega)]
  have:(xs.take p).length=p:=by simp;omega
  rw[this,List.getElem?_drop]
  congr 2
  omega
theorem Ci{xs ys:List Int}(h:∀i,i<xs.length->1<=xs.getD i 0)(hy:∀j,j<ys.length->1<=ys.getD j 0∨∃i,i<xs.length/\ys.getD j 0=xs.getD i 0):∀j,j<ys.length->1<=ys.getD j 0:=λ j hj=>by
 rcases hy j hj with h1|⟨i,hi,he⟩
 ·exact h1
 ·rw[he];exact h i hi
section
variable{b i:Nat}{xs:List Int}{r:Int}
theorem Bd(b i:Nat)(j:Nat):(b ||| 2^i).testBit j=(b.testBit j||decide (j=i)):=by
 rw[Nat.testBit_or,Nat.testBit_two_pow]
 congr 1
 exact decide_eq_decide.2 eq_comm
theorem vL(b i:Nat)(j:Nat):(b ^^^ (b &&& 2^i)).testBit j=(b.testBit j&&!decide (j=i)):=by
 rw[Nat.testBit_xor,Nat.testBit_and,Nat.testBit_two_pow]
 have:decide (i=j)=decide (j=i):=decide_eq_decide.2 eq_comm
 rw[this]
 cases b.testBit j<;>cases decide (j=i)<;>rfl
theorem Ge(h:BV b xs)(hi:i<64)(hb:b.testBit i=false)(hr:1<=r):BV (b ||| 2^i) (wI xs (gA b i) r)/\∀k,k<64->qS (b ||| 2^i) (wI xs (gA b i) r) k=Jg (qS b xs) i (some r) k:=by
 have hc:=zY hb (λ j _=>Bd b i j)
 have hp:gA b i<=xs.length:=by
  obtain⟨d,hd⟩:=Nat.exists_eq_add_of_le (Nat.le_of_lt hi)
  rw[h.len,hd]
  exact wR b i d
 refine⟨⟨Nat.or_lt_two_pow (n:=64) h.lt (Nat.pow_lt_pow_right (a:=2) (by decide) hi),?_,Ci h.pos λ j hj=>?_⟩,λ k hk=>?_⟩
 ·rw[Hk hp,hc 64 (Nat.le_refl _),if_pos hi,h.len]
 ·rw[Hk hp] at hj
  rw[We hp]
  by_cases h1:j<gA b i
  ·rw[if_pos h1];exact .inr ⟨j,by omega,rfl⟩
  ·rw[if_neg h1]
   by_cases h2:j=gA b i
   ·rw[if_pos h2];exact .inl hr
   ·rw[if_neg h2];exact .inr ⟨j-1,by omega,rfl⟩
 ·simp only[qS,Jg]
  rw[Bd,hc k (by omega),We hp]
  by_cases hki:k=i
  ·subst hki;simp
  ·rw[if_neg hki,decide_eq_false hki,Bool.or_false]
   by_cases hbk:b.testBit k=true
   ·rw[if_pos hbk,if_pos hbk]
    congr 1
    by_cases hlt:k<i
    ·have:=oW hlt hbk
     rw[if_neg (show ¬i<k by omega),if_pos (by omega)]
     rfl
    ·have:gA b i<=gA b k:=by
      obtain⟨d,hd⟩:=Nat.exists_eq_add_of_le (show i<=k by omega)
      rw[hd];exact wR b i d
     rw[if_pos (show i<k by omega),if_neg (by omega),if_neg (by omega)]
     rfl
   ·rw[if_neg hbk,if_neg hbk]
theorem S4(h:BV b xs)(hi:i<64)(hb:b.testBit i=true)(hr:1<=r):BV b (qT xs (gA b i) r)/\∀k,k<64->qS b (qT xs (gA b i) r) k=Jg (qS b xs) i (some r) k:=by
 have hp:gA b i<xs.length:=by rw[h.len];exact oW hi hb
 refine⟨⟨h.lt,by rw[wA hp,h.len],Ci h.pos λ j hj=>?_⟩,λ k hk=>?_⟩
 ·rw[wA hp] at hj
  rw[L8 hp]
  by_cases h2:j=gA b i
  ·rw[if_pos h2];exact .inl hr
  ·rw[if_neg h2];exact .inr ⟨j,hj,rfl⟩
 ·simp only[qS,Jg]
  rw[L8 hp]
  by_cases hki:k=i
  ·subst hki;rw[if_pos hb,if_pos rfl,if_pos rfl]
  ·rw[if_neg hki]
   by_cases hbk:b.testBit k=true
   ·rw[if_pos hbk,if_pos hbk,if_neg]
    rcases Nat.lt_or_gt_of_ne hki with hlt|hlt
    ·have:=oW hlt hbk;omega
    ·have:=oW hlt hb;omega
   ·rw[if_neg hbk,if_neg hbk]
theorem R4(h:BV b xs)(hi:i<64)(hb:b.testBit i=true):BV (b ^^^ (b &&& 2^i)) (sG xs (gA b i))/\∀k,k<64->qS (b ^^^ (b &&& 2^i)) (sG xs (gA b i)) k=Jg (qS b xs) i none k:=by
 have hp:gA b i<xs.length:=by rw[h.len];exact oW hi hb
 have hb':(b ^^^ (b &&& 2^i)).testBit i=false:=by rw[vL];simp
 have hc:=zY (b':=b) hb' (λ j _=>by
  rw[vL]
  by_cases hji:j=i
  ·subst hji;simp[hb]
  ·rw[decide_eq_false hji];simp)
 refine⟨⟨Nat.xor_lt_two_pow (n:=64) h.lt (Nat.lt_of_le_of_lt Nat.and_le_left h.lt),?_,Ci h.pos λ j hj=>?_⟩,λ k hk=>?_⟩
 ·have:=Hf hp
  have:=hc 64 (Nat.le_refl _)
  rw[if_pos hi] at this
  have:=h.len
  omega
 ·have:=Hf hp
  rw[Wz hp]
  by_cases h1:j<gA b i
  ·rw[if_pos h1];exact .inr ⟨j,by omega,rfl⟩
  ·rw[if_neg h1];exact .inr ⟨j+1,by omega,rfl⟩
 ·simp only[qS,Jg]
  have hck:=hc k (by omega)
  rw[vL,Wz hp]
  by_cases hki:k=i
  ·subst hki;simp
  ·rw[if_neg hki,decide_eq_false hki,Bool.not_false,Bool.and_true]
   by_cases hbk:b.testBit k=true
   ·rw[if_pos hbk,if_pos hbk]
    congr 1
    by_cases hlt:k<i
    ·have:=oW hlt hbk
     rw[if_neg (show ¬i<k by omega)] at hck
     rw[if_pos (by omega),hck]
     rfl
    ·have:=oW (show i<k by omega) hb
     rw[if_pos (show i<k by omega)] at hck
     rw[if_neg (by omega),hck]
   ·rw[if_neg hbk,if_neg hbk]
end
end
section
variable{w0 w:World}{M:List Nat}{H:List (Nat×Obj)}{A F:Fr}{O:List Ow}
end
end Go.Ct
namespace Go.Proofs.YtbajmaoegmbfgaaGreat
open Go.RowKit Go.Ct
section
theorem tZ{n:Nd}{xs:List Int}{ys:List Pr}(h:n.kind=3)(hv:cA n xs ys):(xs.length:Int)=yT n.bm/\Pos xs:=by
 obtain⟨_,_,_,_,hv⟩:=hv
 rcases hv with h1|⟨h1,_⟩|⟨_,h2,h3⟩|⟨h1|h1,_⟩|⟨h1,_⟩|⟨h1,_⟩|⟨h1,_⟩
 all_goals first|exact⟨h2,h3⟩|(rw[h] at h1;exact absurd h1 (by decide))
end
section
theorem aAj (n : Nd) (h1 : 1 ≤ n.kind) (h8 : n.kind ≤ 8) (w : World) : Calls Tryz.prog 169 #[n.v] w fun e w' => e = .returned n.own.v ∧ St w [] [] w' := by
  refine enter Tryz.func169 Tryz.ntmps169 rfl rfl (SF.s0 w) ?_
  simp only [cC]
  refine J0 ?_; refine bM (fun x1 => ?_); refine aK (fun x2 => ?_); refine aH ?_; refine Du ?_; refine aH ?_; refine cS ?_; refine lQ ?_
  refine bC (fun c5 => ?_) (fun c5 => ?_)
  · refine iI ?_; refine wT ?_
    refine bE Tryz.results169 (fun w hw => ?_)
    (exact ⟨by simp only [Nd.own, beq_iff_eq, *, if_true, if_false]; rfl, hw.done⟩)
  · refine lQ ?_
    refine bC (fun c10 => ?_) (fun c10 => ?_)
    · refine iI ?_; refine J3 ?_; refine J3 ?_; refine wT ?_
      refine bE Tryz.results169 (fun w hw => ?_)
      (exact ⟨by simp only [Nd.own, beq_iff_eq, *, if_true, if_false]; rfl, hw.done⟩)
    · refine lQ ?_
      refine bC (fun c19 => ?_) (fun c19 => ?_)
      · refine iI ?_; refine J3 ?_; refine J3 ?_; refine J3 ?_; refine wT ?_
        refine bE Tryz.results169 (fun w hw => ?_)
        (exact ⟨by simp only [Nd.own, beq_iff_eq, *, if_true, if_false]; rfl, hw.done⟩)
      · refine lQ ?_
        refine bC (fun c30 => ?_) (fun c30 => ?_)
        · refine iI ?_; refine J3 ?_; refine J3 ?_; refine J3 ?_; refine wT ?_
          refine bE Tryz.results169 (fun w hw => ?_)
          (exact ⟨by simp only [Nd.own, beq_iff_eq, *, if_true, if_false]; rfl, hw.done⟩)
        · refine lQ ?_
          refine bC (fun c41 => ?_) (fun c41 => ?_)
          · refine iI ?_; refine J3 ?_; refine J3 ?_; refine J3 ?_; refine J3 ?_; refine wT ?_
            refine bE Tryz.results169 (fun w hw => ?_)
            (exact ⟨by simp only [Nd.own, beq_iff_eq, *, if_true, if_false]; rfl, hw.done⟩)
          · refine lQ ?_
            refine bC (fun c54 => ?_) (fun c54 => ?_)
            · refine iI ?_; refine J3 ?_; refine J3 ?_; refine J3 ?_; refine wT ?_
              refine bE Tryz.results169 (fun w hw => ?_)
              (exact ⟨by simp only [Nd.own, beq_iff_eq, *, if_true, if_false]; rfl, hw.done⟩)
            · refine lQ ?_
              refine bC (fun c65 => ?_) (fun c65 => ?_)
              · refine iI ?_; refine J3 ?_; refine wT ?_
                refine bE Tryz.results169 (fun w hw => ?_)
                (exact ⟨by simp only [Nd.own, beq_iff_eq, *, if_true, if_false]; rfl, hw.done⟩)
              · refine lQ ?_
                refine bC (fun c72 => ?_) (fun c72 => ?_)
                · refine iI ?_; refine J3 ?_; refine J3 ?_; refine J3 ?_; refine J3 ?_; refine wT ?_
                  refine bE Tryz.results169 (fun w hw => ?_)
                  (exact ⟨by simp only [Nd.own, beq_iff_eq, *, if_true, if_false]; rfl, hw.done⟩)
                · refine pI ?_; refine J0 ?_; refine wT ?_
                  refine bE Tryz.results169 (fun w hw => ?_)
                  (exfalso; omega)
theorem gf{n:Nd}{xs:List Int}{ys:List Pr}(h:n.kind=3){k:Nat}(hk:k<xs.length)(hx:xs.getD k 0<1):false=true↔cA n xs ys:=by
 simp only[Bool.false_eq_true,false_iff]
 intro hv
 have:=(tZ h hv).2 k hk
 omega
theorem si{n:Nd}{xs:List Int}{ys:List Pr}{c:Int}(h:n.kind=3)(he:rQ n n.own xs (n.jV xs) ys (n.iV ys))(h1:0<=n.main)(h2:0<=n.prev)(h3:0<=n.status)(eo:yT n.bm=c)(hp:Pos xs):((xs.length:Int)==c)=true↔cA n xs ys:=by
 rw[beq_iff_eq,<- eo]
 exact⟨λ hl=>⟨he,h1,h2,h3,.inr (.inr (.inl ⟨h,hl,hp⟩))⟩,λ hv=>(tZ h hv).1⟩
theorem yZ{n:Nd}{xs:List Int}{ys:List Pr}{w:World}{b:Nat}(hb:n.bm=(b:Int))(hb2:b<18446744073709551616)(hr:rY w n xs ys) :
  Calls Tryz.prog 126 #[n.v] w λ e w'=>∃r:Bool,e=.returned (.bool r)/\(r=true↔cA n xs ys)/\St w [] [] w':=by
 have e1:=hr.brN;have e2:=hr.prN
 obtain⟨kind,gen,main,bm,brA,brN,brC,hash,key,val,prA,prN,prK,prev,bJ,exp,new,status⟩:=n
 simp only at e1 e2 hb
 subst e1 e2 hb
 have eo:yT (b:Int)=((gA b 64:Nat):Int):=sI hb2
 have hxl:=hr.brS
 refine enter Tryz.func126 Tryz.ntmps126 rfl rfl (SF.s2 hr.br hr.pr) ?_
 simp only[cC]
 simp only[Nd.v,Nd.cells]
 refine J0 ?_;refine bM (λ x1=>?_);refine jF ?_;refine aV ?_;refine eC [(0,[]),(1,[]),(2,[]),(3,[]),(4,[]),(5,[]),(6,[]),(7,[]),(8,[]),(9,[]),(10,[]),(11,[9]),(12,[]),(13,[]),(14,[]),(15,[]),(16,[]),(17,[]),(18,[]),(19,[]),(20,[]),(21,[]),(22,[]),(23,[]),(24,[]),(25,[]),(26,[]),(27,[]),(28,[]),(29,[])] ?_;refine lH ?_;refine Dz ?_;refine aN ?_
 (refine n7 7 (λ g7=>?_) (λ g7=>?_)<;>(first|refine fN ?_|(refine aU ?_)))
 all_goals ((first|refine fN ?_|(refine bT ?_));(first|refine fN ?_|(refine aCc ?_));refine jD ?_;refine aN ?_)
 all_goals (first|refine fN ?_|(refine n7 12 (λ g12=>?_) (λ g12=>?_)<;>(first|refine fN ?_|(refine bT ?_))))
 all_goals ((first|refine fN ?_|(refine bT ?_));(first|refine fN ?_|(refine cR (i:=11) (hq:=(cV (hc:=λ w1 hw=>aAj (⟨kind,gen,main,(b:Int),brA,xs.length,brC,hash,key,val,prA,ys.length,prK,prev,bJ,exp,new,status⟩:Nd) (show(1:Int)<=kind by omega) (show kind<=8 by omega) w1))) (h:=λ x15=>?_)));(first|refine fN ?_|(refine bB (i:=12) (hq:=(c0 (V:=.bool) (hc:=λ w1 hw=>oo (a:=(⟨kind,gen,main,(b:Int),brA,xs.length,brC,hash,key,val,prA,ys.length,prK,prev,bJ,exp,new,status⟩:Nd)) (b:=((⟨kind,gen,main,(b:Int),brA,xs.length,brC,hash,key,val,prA,ys.length,prK,prev,bJ,exp,new,status⟩:Nd)).own) (hr.gG hw.done) (hr.gG hw.done).own))) (h:=λ x16 h16=>?_)));(first|refine fN ?_|(refine K3 ?_));refine jD ?_;refine aN ?_)
 all_goals (first|refine fN ?_|(refine n7 19 (λ g19=>?_) (λ g19=>?_)<;>(first|refine fN ?_|(refine aU ?_))))
 all_goals ((first|refine fN ?_|(refine bT ?_));(first|refine fN ?_|(refine Dz ?_));refine jD ?_;refine aN ?_)
 all_goals (first|refine fN ?_|(refine n7 24 (λ g24=>?_) (λ g24=>?_)<;>(first|refine fN ?_|(refine aU ?_))))
 all_goals ((first|refine fN ?_|(refine bT ?_));(first|refine fN ?_|(refine Dz ?_));refine jD ?_;refine aN ?_)
 all_goals (first|refine fN ?_|(refine n7 29 (λ g29=>?_) (λ g29=>?_)<;>(first|refine fN ?_|(refine aU ?_))))
 all_goals ((first|refine fN ?_|(refine bT ?_));(first|refine fN ?_|(refine Dz ?_));refine jD ?_;refine eL ?_)
 all_goals
 refine bC (λ c33=>?_) (λ c33=>?_)
 ·all_goals refine cX ?_
  all_goals
   refine aR Tryz.results126 (λ w hw=>?_)
   refine⟨_,rfl,?_,hw.done⟩
   first|(simp_all[cA];done)|(simp_all[cA];omega)
 ·try exact nv c33
  all_goals (refine kW ?_;refine iI ?_;refine aH ?_;refine cS ?_;refine lQ ?_)
  all_goals
   refine bC (λ c36=>?_) (λ c36=>?_)
   ·refine iI ?_;refine oG ?_;refine J1 ?_
    refine aR Tryz.results126 (λ w hw=>?_)
    refine⟨_,rfl,?_,hw.done⟩
    (simp_all[cA];done)
   ·refine lQ ?_
    refine bC (λ c41=>?_) (λ c41=>?_)
    ·refine aV ?_;refine Ex ?_
     refine iD [2,3,43,44,45,46,47,48,49,50,51,52,53,54,55] (λ k=>[(3,.int .i64 ((k:Nat):Int))]) (λ k=>k<=xs.length/\∀i,i<k->1<=xs.getD i 0) (λ k=>xs.length-k) (0) (⟨Nat.zero_le _,λ i hi=>absurd hi (Nat.not_lt_zero i)⟩) ?_ (λ k f hx=>?_)
     ·repeat (first|exact bI _|refine bD (by exact rfl) ?_)
     dsimp only[hY,List.map,List.cons_append,List.nil_append]
     refine kT ?_;refine Rr ?_;refine Aj ?_
     refine bC (λ c47=>?_) (λ c47=>?_)
     ·refine rX ?_;refine Kb9 ?_;refine Rp ?_;refine Aj ?_
      refine bC (λ c55=>?_) (λ c55=>?_)
      ·refine cX ?_
       refine aR Tryz.results126 (λ w hw=>?_)
       refine⟨_,rfl,?_,hw.done⟩
       exact gf c41 (k:=k) (by omega) (by assumption)
      ·refine Kc0 ?_
       refine fM (k+1) ?_ ?_ ?_
       ·omega
       ·repeat' (first|exact bI _|refine bD ?_ ?_)
        exact rfl
       ·exact⟨by omega,λ i hi=>by rcases Nat.lt_succ_iff_lt_or_eq.1 hi with h|rfl;exact hx.2 i h;omega⟩
     ·refine bP rfl ?_;refine aV ?_;refine eC [(0,[]),(1,[]),(2,[]),(3,[]),(4,[]),(5,[1]),(6,[]),(7,[])] ?_;refine lH ?_;refine oI ?_;refine lH ?_;refine cR (i:=5) (hq:=(cV (hc:=λ w1 hw=>Tk hb2 w1))) (h:=λ x61=>?_);refine nE ?_;refine J7 ?_
      refine aR Tryz.results126 (λ w hw=>?_)
      refine⟨_,rfl,?_,hw.done⟩
      exact si c41 (h16.1 (by simpa using g19)) (show 0<=main by omega) (show 0<=prev by omega) (show 0<=status by omega) eo (λ i hi=>hx.2 i (by omega))
    ·refine aV ?_;refine lQ ?_
     refine bC (λ c63=>?_) (λ c63=>?_)
     ·refine aZ ?_
      refine bC (λ c63=>?_) (λ c63=>?_)
      ·refine iI ?_;refine lZ ?_;refine Bb ?_;refine J1 ?_
       refine aR Tryz.results126 (λ w hw=>?_)
       refine⟨_,rfl,?_,hw.done⟩
       (simp_all[cA];omega)
      ·refine lQ ?_
       refine bC (λ c70=>?_) (λ c70=>?_)
       ·refine iI ?_;refine dR ?_;refine oG ?_;refine aA ?_
        (refine eJ 76 (λ g76=>?_) (λ g76=>?_)<;>refine Ka1 ?_)
        all_goals (refine Ka2 ?_;(first|refine aI ?_|(refine aE ?_;refine aD (c0 (V:=.bool) (hc:=λ w1 hw=>mV (hw.cl fin) hr.prS)) (λ x79 h79=>?_)));refine Kb0 ?_)
        all_goals (first|refine aI ?_|(refine eJ 81 (λ g81=>?_) (λ g81=>?_)<;>refine Ka1 ?_))
        all_goals (refine Ka2 ?_;(first|refine aI ?_|(refine aE ?_;refine aD (c0 (V:=.bool) (hc:=λ w1 hw=>j7 (hw.cl fin) hr.prS)) (λ x84 h84=>?_)));refine Kb7 ?_)
        all_goals
        refine aR Tryz.results126 (λ w hw=>?_)
        refine⟨_,rfl,?_,hw.done⟩
        (simp_all[cA];done)
       ·refine lQ ?_
        refine bC (λ c86=>?_) (λ c86=>?_)
        ·refine iI ?_;refine oG ?_;refine J1 ?_
         refine aR Tryz.results126 (λ w hw=>?_)
         refine⟨_,rfl,?_,hw.done⟩
         (simp_all[cA];done)
        ·refine lQ ?_
         refine bC (λ c91=>?_) (λ c91=>?_)
         ·refine iI ?_;refine oG ?_;refine aA ?_
          (refine eJ 96 (λ g96=>?_) (λ g96=>?_)<;>refine Ka1 ?_)
          all_goals (refine J86 ?_;refine Kb0 ?_)
          all_goals (first|refine aI ?_|(refine eJ 101 (λ g101=>?_) (λ g101=>?_)<;>refine Ka1 ?_))
          all_goals (refine J86 ?_;refine Kb7 ?_)
          all_goals
          refine aR Tryz.results126 (λ w hw=>?_)
          refine⟨_,rfl,?_,hw.done⟩
          (simp_all[cA];done)
         ·refine Ka7 ?_
          refine aR Tryz.results126 (λ w hw=>?_)
          refine⟨_,rfl,?_,hw.done⟩
          (simp_all[cA];done)
     ·refine dM ?_;refine Ro ?_
      refine bC (λ c63=>?_) (λ c63=>?_)
      ·refine iI ?_;refine lZ ?_;refine Bb ?_;refine J1 ?_
       refine aR Tryz.results126 (λ w hw=>?_)
       refine⟨_,rfl,?_,hw.done⟩
       (simp_all[cA];omega)
      ·refine lQ ?_
       refine bC (λ c70=>?_) (λ c70=>?_)
       ·refine iI ?_;refine dR ?_;refine oG ?_;refine aA ?_
        (refine eJ 76 (λ g76=>?_) (λ g76=>?_)<;>refine Ka1 ?_)
        all_goals (refine Ka2 ?_;(first|refine aI ?_|(refine aE ?_;refine aD (c0 (V:=.bool) (hc:=λ w1 hw=>mV (hw.cl fin) hr.prS)) (λ x79 h79=>?_)));refine Kb0 ?_)
        all_goals (first|refine aI ?_|(refine eJ 81 (λ g81=>?_) (λ g81=>?_)<;>refine Ka1 ?_))
        all_goals (refine Ka2 ?_;(first|refine aI ?_|(refine aE ?_;refine aD (c0 (V:=.bool) (hc:=λ w1 hw=>j7 (hw.cl fin) hr.prS)) (λ x84 h84=>?_)));refine Kb7 ?_)
        all_goals
        refine aR Tryz.results126 (λ w hw=>?_)
        refine⟨_,rfl,?_,hw.done⟩
        first|(simp_all[cA];done)|(simp_all[cA];omega)
       ·refine lQ ?_
        refine bC (λ c86=>?_) (λ c86=>?_)
        ·refine iI ?_;refine oG ?_;refine J1 ?_
         refine aR Tryz.results126 (λ w hw=>?_)
         refine⟨_,rfl,?_,hw.done⟩
         (simp_all[cA];done)
        ·refine lQ ?_
         refine bC (λ c91=>?_) (λ c91=>?_)
         ·refine iI ?_;refine oG ?_;refine aA ?_
          (refine eJ 96 (λ g96=>?_) (λ g96=>?_)<;>refine Ka1 ?_)
          all_goals (refine J86 ?_;refine Kb0 ?_)
          all_goals (first|refine aI ?_|(refine eJ 101 (λ g101=>?_) (λ g101=>?_)<;>refine Ka1 ?_))
          all_goals (refine J86 ?_;refine Kb7 ?_)
          all_goals
          refine aR Tryz.results126 (λ w hw=>?_)
          refine⟨_,rfl,?_,hw.done⟩
          first|(simp_all[cA];done)|(simp_all[cA];omega)
         ·refine Ka7 ?_
          refine aR Tryz.results126 (λ w hw=>?_)
          refine⟨_,rfl,?_,hw.done⟩
          (simp_all[cA];omega)
end
end Go.Proofs.YtbajmaoegmbfgaaGreat
