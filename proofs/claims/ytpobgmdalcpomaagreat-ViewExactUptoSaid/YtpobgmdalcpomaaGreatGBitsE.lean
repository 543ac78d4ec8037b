/- The last step of OnesCount64: numbers alone. -/
import Derived.Test.YtpobgmdalcpomaaGreatGMem
import Derived.Test.YtpobgmdalcpomaaGreatGAr9
import Derived.Test.YtpobgmdalcpomaaGreatGAr5

set_option linter.unusedSimpArgs false
set_option linter.unusedVariables false
namespace Go.Ct
section
theorem y9{x a b:Nat}(ha:a<256)(h:x=a+256*b):x/256=b:=by omega
theorem ze{x a b:Nat}(ha:a<65536)(h:x=a+65536*b):x/65536=b:=by omega
theorem yu{x a b:Nat}(ha:a<4294967296)(h:x=a+4294967296*b):x/4294967296=b:=by omega
theorem o5{t p s B:Nat}(e:t=p+256*s)(hp:p<=8)(hs:s<=B):t<=8+256*B:=by omega
theorem fa{r t1 t2 t3 p0 p1 p2:Nat}(e0:r=p0+256*t1)(e1:t1=p1+256*t2)(e2:t2=p2+256*t3):r+t1=((p0+p1)+256*(p1+p2))+65536*(t2+t3):=by omega
theorem ca{p0 p1 p2:Nat}(g0:p0<=8)(g1:p1<=8)(g2:p2<=8):(p0+p1)+256*(p1+p2)<65536:=by omega
theorem fb0{t2 t3 t4 t5 t6 t7 p2 p3 p4 p5 p6:Nat}(e2:t2=p2+256*t3)(e3:t3=p3+256*t4)(e4:t4=p4+256*t5)(e5:t5=p5+256*t6)(e6:t6=p6+256*t7):t2+t3+t4+t5=(p2+p3+p4+p5)+256*(p3+p4+p5+p6)+65536*(t4+t5+t6+t7):=by
 subst e6
 omega
theorem fb{r t1 t2 t3 t4 t5 t6 t7 p0 p1 p2 p3 p4 p5 p6:Nat}(f4:r+t1=((p0+p1)+256*(p1+p2))+65536*(t2+t3))(e2:t2=p2+256*t3)(e3:t3=p3+256*t4)(e4:t4=p4+256*t5)(e5:t5=p5+256*t6)(e6:t6=p6+256*t7) :
  r+t1+(t2+t3)=((p0+p1+p2+p3)+256*(p1+p2+p3+p4)+65536*(p2+p3+p4+p5)+16777216*(p3+p4+p5+p6))+4294967296*(t4+t5+t6+t7):=by
 have h1:=fb0 e2 e3 e4 e5 e6
 have h2:t2+t3=(p2+p3)+256*(t3+t4):=by clear h1 f4 e4 e5 e6;omega
 have h3:t3+t4=(p3+p4)+256*(t4+t5):=by clear h1 h2 f4 e2 e5 e6;omega
 clear e2 e3 e4 e5 e6
 omega
theorem cb{p0 p1 p2 p3 p4 p5 p6:Nat}(g0:p0<=8)(g1:p1<=8)(g2:p2<=8)(g3:p3<=8)(g4:p4<=8)(g5:p5<=8)(g6:p6<=8):(p0+p1+p2+p3)+256*(p1+p2+p3+p4)+65536*(p2+p3+p4+p5)+16777216*(p3+p4+p5+p6)<4294967296:=by omega
theorem fc{r t1:Nat}(b0:r<=8+256*(8+256*(8+256*(8+256*(8+256*(8+256*(8+256*8)))))))(b1:t1<=8+256*(8+256*(8+256*(8+256*(8+256*(8+256*8)))))):r+t1<9223372036854775808:=by omega
theorem fd{r t1 t2 t3:Nat}(b0:r<=8+256*(8+256*(8+256*(8+256*(8+256*(8+256*(8+256*8)))))))(b1:t1<=8+256*(8+256*(8+256*(8+256*(8+256*(8+256*8))))))(b2:t2<=8+256*(8+256*(8+256*(8+256*(8+256*8)))))(b3:t3<=8+256*(8+256*(8+256*(8+256*8)))):r+t1+(t2+t3)<9223372036854775808:=by omega
theorem fe{p1 p2 p3 p4 p5 p6 t4 t5 t6 t7:Nat}(g1:p1<=8)(g2:p2<=8)(g3:p3<=8)(g4:p4<=8)(g5:p5<=8)(g6:p6<=8)(b4:t4<=8+256*(8+256*(8+256*8)))(b5:t5<=8+256*(8+256*8))(b6:t6<=8+256*8)(b7:t7<=8) :
  (p1+p2+p3+p4)+256*(p2+p3+p4+p5)+65536*(p3+p4+p5+p6)+16777216*(t4+t5+t6+t7)+(t5+t6+t7)<36028797018963968:=by omega
theorem ff{p0 p1 p2 p3 p4 p5 p6 p7 t4 t5 t6 t7:Nat}(e4:t4=p4+256*t5)(e5:t5=p5+256*t6)(e6:t6=p6+256*t7)(e7:t7=p7) :
  ((p0+p1+p2+p3)+256*(p1+p2+p3+p4)+65536*(p2+p3+p4+p5)+16777216*(p3+p4+p5+p6))+4294967296*(t4+t5+t6+t7)+(t4+t5+t6+t7) =
   (p0+p1+p2+p3+p4+p5+p6+p7)+256*((p1+p2+p3+p4)+256*(p2+p3+p4+p5)+65536*(p3+p4+p5+p6)+16777216*(t4+t5+t6+t7)+(t5+t6+t7)):=by
 have h:t4+t5+t6+t7=(p4+p5+p6+p7)+256*(t5+t6+t7):=by omega
 generalize t4+t5+t6+t7=s at *
 clear e4 e5 e6 e7
 omega
theorem W4{p0 p1 p2 p3 p4 p5 p6 p7 r t1 t2 t3 t4 t5 t6 t7:Nat}(g0:p0<=8)(g1:p1<=8)(g2:p2<=8)(g3:p3<=8)(g4:p4<=8)(g5:p5<=8)(g6:p6<=8)(g7:p7<=8)
  (e0:r=p0+256*t1) (e1:t1=p1+256*t2) (e2:t2=p2+256*t3) (e3:t3=p3+256*t4) (e4:t4=p4+256*t5) (e5:t5=p5+256*t6) (e6:t6=p6+256*t7) (e7:t7=p7) :
  r+r/256<9223372036854775808/\(r+r/256)+(r+r/256)/65536<9223372036854775808/\∃K,K<36028797018963968/\((r+r/256)+(r+r/256)/65536)+((r+r/256)+(r+r/256)/65536)/4294967296=(p0+p1+p2+p3+p4+p5+p6+p7)+256*K:=by
 have b7:t7<=8:=by rw[e7];exact g7
 have b6:=o5 e6 g6 b7
 have b5:=o5 e5 g5 b6
 have b4:=o5 e4 g4 b5
 have b3:=o5 e3 g3 b4
 have b2:=o5 e2 g2 b3
 have b1:=o5 e1 g1 b2
 have b0:=o5 e0 g0 b1
 have f4:r+t1=((p0+p1)+256*(p1+p2))+65536*(t2+t3):=fa e0 e1 e2
 have c4:(p0+p1)+256*(p1+p2)<65536:=ca g0 g1 g2
 have f5:r+t1+(t2+t3)=((p0+p1+p2+p3)+256*(p1+p2+p3+p4)+65536*(p2+p3+p4+p5)+16777216*(p3+p4+p5+p6))+4294967296*(t4+t5+t6+t7):=fb f4 e2 e3 e4 e5 e6
 have c5:=cb g0 g1 g2 g3 g4 g5 g6
 rw[y9 (Nat.lt_of_le_of_lt g0 (by decide)) e0,ze c4 f4,yu c5 f5]
 refine⟨fc b0 b1,fd b0 b1 b2 b3,(p1+p2+p3+p4)+256*(p2+p3+p4+p5)+65536*(p3+p4+p5+p6)+16777216*(t4+t5+t6+t7)+(t5+t6+t7),?_,?_⟩
 ·exact fe g1 g2 g3 g4 g5 g6 b4 b5 b6 b7
 ·rw[f5];exact ff e4 e5 e6 e7
end

/- Bits, the second part. -/
section
open Go Go.RowKit
theorem rn{c K:Nat}(hc:c<=64)(hK:K<36028797018963968):pF .i64 (IntKind.i64.wrap ((c+256*K:Nat):Int)) 127=(c:Int):=by
 rw[wrap_i64 (by omega) (by omega)]
 unfold pF
 have h1:(BitVec.ofInt IntKind.i64.bits ((c+256*K:Nat):Int)).toNat=c+256*K:=by
  show(BitVec.ofInt 64 ((c+256*K:Nat):Int)).toNat=_
  rw[BitVec.toNat_ofInt]
  omega
 have h2:(BitVec.ofInt IntKind.i64.bits 127).toNat=127:=by decide
 rw[BitVec.toNat_and,h1,h2,show(127:Nat)=2^7-1 from rfl,Nat.and_two_pow_sub_one_eq_mod]
 have h3:(c+256*K)%2^7=c:=by omega
 rw[h3]
 exact wrap_i64 (by omega) (by omega)
theorem qZ{n:Nat}(hn:n<18446744073709551616):xP (n:Int)=((hJ n 64:Nat):Int):=by
 obtain⟨r,h1,ps,h2,h3,h4,h5⟩:=Eg 8 n hn
 obtain⟨q1,q2,_⟩:=h1 _ rfl
 match ps,h2 with
 | [p0,p1,p2,p3,p4,p5,p6,p7],_ =>
  simp only[List.mem_cons,List.not_mem_nil,or_false,forall_eq_or_imp,forall_eq] at h3
  simp only[List.foldr_cons,List.foldr_nil] at h4
  simp only[List.sum_cons,List.sum_nil] at h5
  obtain⟨g0,g1,g2,g3,g4,g5,g6,g7⟩:=h3
  have b5:kP 1 6148914691236517205 n<18446744073709551616:=by
   unfold kP
   have h1:(n >>> 1) &&& 6148914691236517205<=6148914691236517205:=Nat.and_le_right
   have h2:n &&& 6148914691236517205<=6148914691236517205:=Nat.and_le_right
   omega
  have e1:∀m:Nat,m<18446744073709551616->IntKind.u64.wrap (pF .u64 (pL .u64 (m:Int) 1) 6148914691236517205+pF .u64 (m:Int) 6148914691236517205)=((kP 1 6148914691236517205 m:Nat):Int):=λ m hm=>by
   have hs:m >>> 1<18446744073709551616:=Nat.lt_of_le_of_lt (Nat.shiftRight_le _ _) hm
   have r1:pL .u64 (m:Int) 1=((m >>> 1:Nat):Int):=pI (i:=1) (by decide)
   have a1:pF .u64 ((m >>> 1:Nat):Int) 6148914691236517205=(((m >>> 1) &&& 6148914691236517205:Nat):Int):=pK hs (m:=6148914691236517205) (by decide)
   have a2:pF .u64 (m:Int) 6148914691236517205=((m &&& 6148914691236517205:Nat):Int):=pK hm (m:=6148914691236517205) (by decide)
   rw[r1,a1,a2,<- Int.natCast_add]
   refine mP ?_
   have h1:(m >>> 1) &&& 6148914691236517205<=6148914691236517205:=Nat.and_le_right
   have h2:m &&& 6148914691236517205<=6148914691236517205:=Nat.and_le_right
   omega
  have e2:∀m:Nat,m<18446744073709551616->IntKind.u64.wrap (pF .u64 (pL .u64 (m:Int) 2) 3689348814741910323+pF .u64 (m:Int) 3689348814741910323)=((kP 2 3689348814741910323 m:Nat):Int):=λ m hm=>by
   have hs:m >>> 2<18446744073709551616:=Nat.lt_of_le_of_lt (Nat.shiftRight_le _ _) hm
   have r1:pL .u64 (m:Int) 2=((m >>> 2:Nat):Int):=pI (i:=2) (by decide)
   have a1:pF .u64 ((m >>> 2:Nat):Int) 3689348814741910323=(((m >>> 2) &&& 3689348814741910323:Nat):Int):=pK hs (m:=3689348814741910323) (by decide)
   have a2:pF .u64 (m:Int) 3689348814741910323=((m &&& 3689348814741910323:Nat):Int):=pK hm (m:=3689348814741910323) (by decide)
   rw[r1,a1,a2,<- Int.natCast_add]
   refine mP ?_
   have h1:(m >>> 2) &&& 3689348814741910323<=3689348814741910323:=Nat.and_le_right
   have h2:m &&& 3689348814741910323<=3689348814741910323:=Nat.and_le_right
   omega
  have m5:rJ 85 8=6148914691236517205:=by decide
  have m3:rJ 51 8=3689348814741910323:=by decide
  have mf:rJ 15 8=1085102592571150095:=by decide
  rw[m5,m3] at q1 q2
  rw[mf] at q1
  unfold xP
  simp only[]
  rw[e1 n hn,e2 _ b5]
  generalize kP 2 3689348814741910323 (kP 1 6148914691236517205 n)=Q at *
  have hQ:Q<18446744073709551616:=q2
  have hr:r<18446744073709551616:=by rw[<- q1];exact Nat.lt_of_le_of_lt Nat.and_le_right (by decide)
  have e3:pF .u64 (IntKind.u64.wrap (pL .u64 (Q:Int) 4+(Q:Int))) 1085102592571150095=(r:Int):=by
   have r1:pL .u64 (Q:Int) 4=((Q >>> 4:Nat):Int):=pI (i:=4) (by decide)
   rw[r1,<- Int.natCast_add]
   have h2:IntKind.u64.wrap ((Q >>> 4+Q:Nat):Int)=(((Q >>> 4+Q)%18446744073709551616:Nat):Int):=by
    have:IntKind.u64.wrap ((Q >>> 4+Q:Nat):Int)=((Q >>> 4+Q:Nat):Int)%18446744073709551616:=by simp[IntKind.wrap,IntKind.signed,IntKind.bits]
    rw[this];omega
   rw[h2]
   have a1:=pK (n:=(Q >>> 4+Q)%18446744073709551616) (m:=1085102592571150095) (Nat.mod_lt _ (by decide)) (by decide)
   refine a1.trans ?_
   rw[<- q1]
   congr 1
   refine Nat.eq_of_testBit_eq λ i=>?_
   rw[Nat.testBit_and,Nat.testBit_and,show(18446744073709551616:Nat)=2^64 from rfl,Nat.testBit_mod_two_pow]
   by_cases hi:i<64
   ·simp[hi]
   ·have:(1085102592571150095:Nat).testBit i=false:=Nat.testBit_lt_two_pow (Nat.lt_of_lt_of_le (by decide:(1085102592571150095:Nat)<2^64) (Nat.pow_le_pow_right (by decide) (by omega)))
    rw[this];simp
  rw[e3]
  have s1:∀m:Nat,pL .u64 (m:Int) 8=((m/256:Nat):Int):=λ m=>by
   have:pL .u64 (m:Int) 8=((m >>> 8:Nat):Int):=pI (i:=8) (by decide)
   rw[this,Nat.shiftRight_eq_div_pow]
  have s2:∀m:Nat,pL .u64 (m:Int) 16=((m/65536:Nat):Int):=λ m=>by
   have:pL .u64 (m:Int) 16=((m >>> 16:Nat):Int):=pI (i:=16) (by decide)
   rw[this,Nat.shiftRight_eq_div_pow]
  have s3:∀m:Nat,pL .u64 (m:Int) 32=((m/4294967296:Nat):Int):=λ m=>by
   have:pL .u64 (m:Int) 32=((m >>> 32:Nat):Int):=pI (i:=32) (by decide)
   rw[this,Nat.shiftRight_eq_div_pow]
  have w64:∀m:Nat,m<9223372036854775808->IntKind.u64.wrap ((m:Nat):Int)=(m:Int):=λ m hm=>mP (by omega)
  have hs:hJ n 64=p0+p1+p2+p3+p4+p5+p6+p7:=by rw[show(64:Nat)=8*8 from rfl,<- h5];omega
  have hc:=xY n 64
  have hx:=W4 (t7:=p7) (t6:=p6+256*p7) (t5:=p5+256*(p6+256*p7)) (t4:=p4+256*(p5+256*(p6+256*p7))) (t3:=p3+256*(p4+256*(p5+256*(p6+256*p7)))) (t2:=p2+256*(p3+256*(p4+256*(p5+256*(p6+256*p7))))) (t1:=p1+256*(p2+256*(p3+256*(p4+256*(p5+256*(p6+256*p7)))))) (r:=r) g0 g1 g2 g3 g4 g5 g6 g7 (by rw[h4];rfl) rfl rfl rfl rfl rfl rfl rfl
  clear h4 q1 q2 e3 e1 e2 b5 h1 hr hQ hn m5 m3 mf h5
  obtain⟨x4,x5,K,hK,x6⟩:=hx
  rw[s1,<- Int.natCast_add,w64 _ x4,s2,<- Int.natCast_add,w64 _ x5,s3,<- Int.natCast_add,x6,<- hs,w64 _ (by omega)]
  exact rn hc hK
end

/- The functions on bitmaps. -/
section
open Go Go.RowKit
def oW(n:Nat)(i:Int):Bool:=decide (0<=i)&&(decide (i<64)&&n.testBit i.toNat)
theorem jl(n:Nat){i:Int}(h:i<0):oW n i=false:=by simp[oW];omega
theorem Ri(n:Nat){i:Int}(h:64<=i):oW n i=false:=by simp[oW];omega
theorem sP(n:Nat){i:Int}(h0:0<=i)(h1:i<64):oW n i=n.testBit i.toNat:=by simp[oW,h0,h1]
theorem ki{n:Nat}(hn:n<18446744073709551616){i:Int}(h0:0<=i)(h1:i<64):(pF .u64 (pL .u64 (n:Int) i) 1==1)=oW n i:=by
 obtain⟨k,rfl⟩:=Int.eq_ofNat_of_zero_le h0
 rw[sP n h0 h1,pI (by omega)]
 have h2:pF .u64 ((n >>> k:Nat):Int) 1=(((n >>> k) &&& 1:Nat):Int):=pK (Nat.lt_of_le_of_lt (Nat.shiftRight_le _ _) hn) (m:=1) (by decide)
 rw[h2]
 simp only[Int.toNat_natCast,Nat.testBit,Nat.and_comm 1]
 rw[Nat.and_one_is_mod]
 rcases Nat.mod_two_eq_zero_or_one (n >>> k) with h|h<;>rw[h]<;>rfl
def qD(n:Nat)(i:Int):Nat:=hJ n (min i.toNat 64)
def eA(n:Nat)(i:Int):Nat:=if 0<=i/\i<64 then n ||| 2^i.toNat else n
def vJ(n:Nat)(i:Int):Nat:=if 0<=i/\i<64 then n ^^^ (n &&& 2^i.toNat) else n
theorem Ln{n:Nat}(hn:n<18446744073709551616){i:Int}(h0:0<=i)(h1:i<64):xe .u64 (n:Int) (Y1 .u64 1 i)=((eA n i:Nat):Int):=by
 obtain⟨k,rfl⟩:=Int.eq_ofNat_of_zero_le h0
 have hp:=Nat.pow_lt_pow_right (a:=2) (by decide) (show k<64 by omega)
 rw[Xd (by omega),j7 hn (by omega),eA,if_pos ⟨h0,h1⟩]
 rfl
theorem yY{n:Nat}(hn:n<18446744073709551616)(i:Int):eA n i<18446744073709551616:=by
 unfold eA
 split
 ·rename_i h
  have hp:=Nat.pow_lt_pow_right (a:=2) (by decide) (show i.toNat<64 by omega)
  exact Nat.or_lt_two_pow (n:=64) hn hp
 ·exact hn
end
end Go.Ct
namespace Go.Proofs.YtpobgmdalcpomaaGreat
section
open Go.RowKit Go.Ct
theorem Df{n:Nat}(hn:n<18446744073709551616)(i:Int)(w:World):Calls Tryz.prog 90 #[.int .u64 (n:Int),.int .i64 i] w λ e w'=>e=.returned (.bool (oW n i))/\St w [] [] w':=by
 refine enter Tryz.func90 Tryz.ntmps90 rfl rfl (SF.s0 w) ?_
 simp only[dB]
 all_goals (refine dH ?_;refine J2 ?_;refine oC ?_;refine aA ?_)
 all_goals (first|refine aG ?_|(refine aC ?_;refine aA ?_)|(refine dG 7 (λ g7=>?_) (λ g7=>?_)<;>(first|refine aG ?_|(refine aC ?_;refine aA ?_))))
 all_goals (refine nh ?_;refine aA ?_)
 all_goals (first|refine aG ?_|(refine aC ?_;refine aA ?_)|(refine dG 11 (λ g11=>?_) (λ g11=>?_)<;>(first|refine aG ?_|(refine aC ?_;refine aA ?_))))
 all_goals ((first|refine aG ?_|(refine aC ?_;refine aA ?_));(first|refine aG ?_|(refine aC ?_;refine lI ?_));(first|refine aG ?_|(refine aC ?_;refine F8 ?_));(first|refine aG ?_|(refine aC ?_;refine E3 ?_));refine rM ?_;refine J1 ?_)
 all_goals
 refine aR Tryz.results90 (λ w hw=>?_)
 first|(rw[jl n (by omega)];exact⟨rfl,hw.done⟩)|(rw[Ri n (by omega)];exact⟨rfl,hw.done⟩)|(rw[<- ki hn (by omega) (by omega)];exact⟨rfl,hw.done⟩)
theorem Ng{n:Nat}(hn:n<18446744073709551616)(i:Int)(w:World):Calls Tryz.prog 131 #[.int .u64 (n:Int),.int .i64 i] w λ e w'=>e=.returned (.int .i64 ((qD n i:Nat):Int))/\St w [] [] w':=by
 refine enter Tryz.func131 Tryz.ntmps131 rfl rfl (SF.s0 w) ?_
 simp only[dB]
 all_goals (refine dH ?_;refine Be ?_;refine Cq ?_)
 all_goals
 refine gE [5,6,7,8,9,10,11,12,13,14,15,16,17,18,19,20] (λ k=>[(5,.int .i64 ((hJ n k:Nat):Int)),(6,.int .i64 ((k:Nat):Int))]) (λ k=>k<=64/\(k:Int)<=max i 0) (λ k=>64-k) (0) (⟨by decide,by omega⟩) ?_ (λ k f hx=>?_)
 ·repeat (first|exact bI _|refine bE (by first|exact rfl|(conv=>{lhs;whnf};simp;done)) ?_)
 dsimp only[gW,List.map,List.cons_append,List.nil_append]
 have hcl:=xY n k
 all_goals (refine jS ?_;refine Am ?_)
 all_goals (first|refine aG ?_|(refine aC ?_;refine aA ?_)|(refine dG 9 (λ g9=>?_) (λ g9=>?_)<;>(first|refine aG ?_|(refine aC ?_;refine aA ?_))))
 all_goals ((first|refine aG ?_|(refine aC ?_;refine aA ?_));refine nh ?_;refine aN ?_)
 all_goals
  refine bF (λ c13=>?_) (λ c13=>?_)
  ·try exact nv c13
   all_goals (refine oD ?_;refine jE ?_;(refine aF (cV (hc:=λ w1 hw=>Df hn (k:Int) w1)) (λ x18=>?_);try (refine aB (λ h18=>?_)));refine aN ?_)
   all_goals
   refine bF (λ c18=>?_) (λ c18=>?_)
   ·try exact nv c18
    all_goals (refine uH ?_;refine eV ?_;refine uH ?_)
    all_goals
     refine fD (k+1) ?_ ?_ ?_
     ·first|omega|(simp only[];omega)
     ·repeat' (first|exact bI _|refine bE ?_ ?_)
      all_goals (first|exact rfl|(rw[sP n (by omega) (by omega),Int.toNat_natCast] at *;conv=>{lhs;whnf};congr 2;simp only[hJ];simp_all;done)|(conv=>{lhs;whnf};congr 1;omega))
     ·omega
   ·try exact nv c18
    all_goals (refine mN ?_;refine uH ?_)
    all_goals
     refine fD (k+1) ?_ ?_ ?_
     ·first|omega|(simp only[];omega)
     ·repeat' (first|exact bI _|refine bE ?_ ?_)
      all_goals (first|exact rfl|(rw[sP n (by omega) (by omega),Int.toNat_natCast] at *;conv=>{lhs;whnf};congr 2;simp only[hJ];simp_all;done)|(conv=>{lhs;whnf};congr 1;omega))
     ·omega
  ·try exact nv c13
   all_goals (refine bQ rfl ?_;refine J2 ?_;refine J1 ?_)
   all_goals
   refine aR Tryz.results131 (λ w hw=>?_)
   have:qD n i=hJ n k:=by unfold qD;congr 1;omega
   rw[this]
   exact⟨rfl,hw.done⟩
theorem O7{n:Nat}(hn:n<18446744073709551616)(w:World):Calls Tryz.prog 99 #[.int .u64 (n:Int)] w λ e w'=>e=.returned (.int .i64 ((hJ n 64:Nat):Int))/\St w [] [] w':=by
 refine enter Tryz.func99 Tryz.ntmps99 rfl rfl (SF.s0 w) ?_
 simp only[dB]
 all_goals (refine dH ?_;refine J2 ?_;(refine aF (cV (hc:=λ w1 hw=>Ng hn 64 w1)) (λ x4=>?_);try (refine aB (λ h4=>?_)));refine J1 ?_)
 all_goals
 refine aR Tryz.results99 (λ w hw=>?_)
 exact⟨rfl,hw.done⟩
theorem mR{n:Nat}(hn:n<18446744073709551616)(i:Int)(w:World):Calls Tryz.prog 147 #[.int .u64 (n:Int),.int .i64 i] w λ e w'=>e=.returned (.int .u64 ((eA n i:Nat):Int))/\St w [] [] w':=by
 refine enter Tryz.func147 Tryz.ntmps147 rfl rfl (SF.s0 w) ?_
 simp only[dB]
 all_goals (refine dH ?_;refine jS ?_;refine Am ?_)
 all_goals (first|refine aG ?_|(refine aC ?_;refine aA ?_)|(refine dG 7 (λ g7=>?_) (λ g7=>?_)<;>(first|refine aG ?_|(refine aC ?_;refine aA ?_))))
 all_goals (refine xV ?_;refine aN ?_)
 all_goals
 refine bF (λ c10=>?_) (λ c10=>?_)
 ·try exact nv c10
  all_goals (refine J2 ?_;refine J1 ?_)
  all_goals
   refine aR Tryz.results147 (λ w hw=>?_)
   first|(rw[<- Ln hn (by omega) (by omega)];exact⟨rfl,hw.done⟩)|(rw[show eA n i=n by unfold eA;rw[if_neg (by omega)]];exact⟨rfl,hw.done⟩)
 ·try exact nv c10
  all_goals (refine Ak ?_;refine lI ?_;refine um ?_;refine y7 ?_;refine J1 ?_)
  all_goals
   refine aR Tryz.results147 (λ w hw=>?_)
   first|(rw[<- Ln hn (by omega) (by omega)];exact⟨rfl,hw.done⟩)|(rw[show eA n i=n by unfold eA;rw[if_neg (by omega)]];exact⟨rfl,hw.done⟩)
end

/- Nodes and lists of pairs out of tapes. -/
end Go.Proofs.YtpobgmdalcpomaaGreat
namespace Go.Ct
section
end
end Go.Ct
namespace Go.Proofs.YtpobgmdalcpomaaGreat
section
open Go.RowKit Go.Ct
structure xx(refs:Int)(n:Nd)(xs:List Int)(ys:List Pr):Prop where
 valid:bL n xs ys
 brN:n.brN=xs.length
 prN:n.prN=ys.length
 brC:n.brN<=n.brC
 dI:n.prN<=n.dI
 bm:∃b:Nat,n.bm=(b:Int)/\b<18446744073709551616
 xs64:xs.length<=64
 ys2:ys.length<=2
 key:n.key.size<=4
 cells:n.main=0/\n.prev=0/\n.status=0
 gen:0<=n.gen/\n.gen<=3
 kind:n.kind=2∨n.kind=3∨n.kind=4∨n.kind=5∨n.kind=6∨n.kind=8
 refs:(∀r∈xs,1<=r/\r<=refs)/\0<=n.cE/\n.cE<=refs/\0<=n.exp/\n.exp<=refs/\0<=n.new/\n.new<=refs
end

/- A node out of a tape. -/
section
open Go.RowKit Go.Ct
end

/- Memories that come out of tapes are proper. -/
section
open Go.Ct
end

/- A memory out of a tape. -/
end Go.Proofs.YtpobgmdalcpomaaGreat
namespace Go.Ct
section
structure xw(L:List aQ)(cs:List Int):Prop where
 proper:dK L cs 3
 fit:Fits L
 rng:lD L
 hL:L.length<=10
 hc:cs.length<=10
end
end Go.Ct
namespace Go.Proofs.YtpobgmdalcpomaaGreat
section
open Go.RowKit Go.Ct
end

/- Lists of states. -/
end Go.Proofs.YtpobgmdalcpomaaGreat
namespace Go.Ct
section
open Go Go.RowKit
section
variable{w0 w w':World}{M:List Nat}{H:List (Nat×Obj)}{A F:Fr}{O:List Ow}
variable{P:Program}{S:List (Nat×Value)}{G:World->Prop}{d:Nat}{ty:TypeId}{pos:String}{af:Array Edge}{gd:Option (Nat×Bool)}{x y:Operand}{t t2 e:TypeId}{p a:Option Addr}{i m k c c2 sz:Nat}
variable{α:Type}{g:α->List Value}{z:α}
theorem Bu(hg:∀x,(g x).length=sz):∀l:List α,(l.flatMap g).length=sz*l.length
 | []=>by simp
 | x::r=>by
  have:=Bu hg r
  simp only[List.flatMap_cons,List.length_append,List.length_cons,this,hg,Nat.mul_add,Nat.mul_one]
  omega
theorem Sq(hg:∀x,(g x).length=sz):∀{l:List α} {k j:Nat},k<l.length->j<sz->(l.flatMap g)[sz*k+j]?=(g (l.getD k z))[j]?
 | [],_,_,h,_=>by simp at h
 | n::r,0,j,_,hj=>by
  simp only[List.flatMap_cons,Nat.mul_zero,Nat.zero_add,List.getD_cons_zero]
  rw[List.getElem?_append_left (by rw[hg];exact hj)]
 | n::r,k+1,j,h,hj=>by
  have:=Sq hg (l:=r) (k:=k) (j:=j) (by simpa using h) hj
  simp only[List.flatMap_cons,List.getD_cons_succ]
  rw[List.getElem?_append_right (by rw[hg,Nat.mul_add];omega),<- this,hg]
  congr 1
  rw[Nat.mul_add]
  omega
theorem SF.y4(h:SF w0 M H A F O w){l:List Int}{T:TypeId}(ho:vL O i p (aJ l) c T 1):l.length<=c:=by
 rcases(h.own _ ho.mem).1 with⟨_,h2,_⟩|⟨b,rest,_,_,h3⟩
 ·have h2':aJ l=[]:=h2
  have:(aJ l).length=0:=by rw[h2'];rfl
  rw[gF] at this
  omega
 ·have h3':(aJ l++rest).length=c*1:=h3
  rw[List.length_append,gF] at h3'
  omega
theorem Xr{lst:List α}{kk:IntKind}(hg:∀x,(g x).length=sz)(h0:0<sz)(hx:ev S x=.slice a m c)(hy:ev S y=.int kk ((k:Nat):Int))(ht:P.underlying t=some (.slice e))(hs:kL P e sz=true)(hf:pP A F O a (lst.flatMap g))(h1:k<m)(h2:k<lst.length) :
  aS P S (SF w0 M H A F O) ⟨some d,.indexAddr t x y,ty,pos,af,gd⟩ (.pointer (some ⟨dJ a,eW a+sz*k,none⟩)):=⟨λ w hw=>by
 obtain⟨_,_,_,hsz⟩:=iO hs
 have ha:=(hw.cl hf).ptr (by rw[Bu hg];exact Nat.mul_pos h0 (by omega))
 have:=wD (P:=P) (a:=a) (m:=m) (c:=c) (k:=kk) ht hsz ha (i:=(k:Int)) (by omega) (by omega) w
 simp only[Int.toNat_natCast,Nat.mul_comm k sz] at this
 simp[execOp,hx,hy,this]⟩
theorem Yv{lst:List α}{q j:Nat}{v:Value}(z:α)(hg:∀x,(g x).length=sz)(hx:ev S x=.pointer (some ⟨dJ a,eW a+sz*q+j,none⟩))(ht:one P t=true)(hj:j<sz)(hv:(g (lst.getD q z))[j]?=some v)(hf:pP A F O a (lst.flatMap g))(hq:q<lst.length) :
  aS P S (SF w0 M H A F O) ⟨some d,.load t x,ty,pos,af,gd⟩ v:=oJ (q:=sz*q+j) (by rw[hx];simp only[Nat.add_assoc]) ht (λ w hw=>hw.cl hf) (by rw[Sq (z:=z) hg hq hj];exact hv)
end
structure uc where
 L:List aQ
 cs:List Int
 gen:Int
 pn:Option Addr
 cn:Nat
 pc:Option Addr
 cc:Nat
def uc.fr(s:uc):Fr:=(s.pn,iD s.L)::(s.pc,aJ s.cs)::bG s.L
structure uc.Ok(s:uc):Prop where
 fit:Fits s.L
 rng:lD s.L
 cap:s.L.length<=s.cn
end
end Go.Ct
namespace Go.Proofs.YtpobgmdalcpomaaGreat
section
open Go.RowKit Go.Ct
theorem Qc{L:List aQ}{cs:List Int}{gen:Int}{pn pc:Option Addr}{cn cc:Nat}{w:World}(h1:Cl w pn (iD L))(h2:Cl w pc (aJ cs))(hL:L.length<=274877906944)(hC:cs.length<=274877906944) :
    Calls Tryz.prog 22 #[.agg ⟨[.slice pn L.length cn,.slice pc cs.length cc,.int .i64 gen]⟩] w λ e w'=>∃x:(Option Addr×Nat)×(Option Addr×Nat),e=.returned (.agg ⟨[.slice x.1.1 L.length x.1.2,.slice x.2.1 cs.length x.2.2,.int .i64 gen]⟩)/\(L.length<=x.1.2/\cs.length<=x.2.2) /\
      SF w [] [] [] [] [⟨x.1.1,iD L,x.1.2,59,14⟩,⟨x.2.1,aJ cs,x.2.2,52,1⟩] w':=by
  refine enter Tryz.func22 Tryz.ntmps22 rfl rfl (SF.s2 h1 h2) ?_
  simp only[dB]
  all_goals (refine J0 ?_;refine bM (λ x1=>?_);refine aY (λ x2=>?_);refine Iz ?_)
  all_goals
   refine fH [3,4,5,6,7,8,9,10,11,12,13] (λ j:(Option Addr×Nat)×(Option Addr×Nat)=>[]) (λ _=>True) (λ j=>[(x2,.cells ⟨[.slice j.1.1 L.length j.1.2,.slice j.2.1 cs.length j.2.2,.int .i64 gen]⟩ 41 (0,0)),(x1,.cells ⟨[.slice pn L.length cn,.slice pc cs.length cc,.int .i64 gen]⟩ 41 (0,0))]) (λ j=>[]) (λ j=>[⟨j.1.1,iD L,j.1.2,59,14⟩,⟨j.2.1,aJ cs,j.2.2,52,1⟩]) (by decide) (λ _=>by exact rfl) ?_ (λ j f hx=>?_)
   · refine gU (.one 1 [] (.one 2 [] (.one 5 [] (.one 6 [] (.one 8 [] (.one 9 [] (.two 0 [2,6,9] (.two 3 [6,9] (.one 4 [2,6,9] (.one 7 [9] (.one 10 [] (.one 11 [] .nil)))) 0 [] (.two 4 [2,6,9] (.one 3 [6,9] (.one 7 [9] (.one 10 [] (.one 11 [] .nil)))) 0 [] .nil)) 0 [] (.two 4 [2,6,9] (.one 0 [2,6,9] (.one 3 [6,9] (.one 7 [9] (.one 10 [] (.one 11 [] .nil))))) 0 [] .nil)))))))) ?_
     all_goals (refine jP ?_;refine jP ?_;refine jP ?_)
     all_goals
      refine gS (E:=[0,4]) (by decide +kernel) ((.cons ?_ (.cons ?_ .nil)))
      · refine zB (i:=0) (h:=λ x3=>?_)
        all_goals
         refine gS (E:=[3,4]) (by decide +kernel) ((.cons ?_ (.cons ?_ .nil)))
         · (refine Nk (i:=3) (h:=λ x6=>?_);try (refine aK (λ h6=>?_)))
           all_goals (refine Eb (h:=λ x7=>?_);((refine cR (h:=λ x10=>?_);try (refine aK (λ h10=>?_))));refine eT ?_;refine wW ?_)
           all_goals
            refine fM ((x6,x10)) ?_ (hw1:=λ w hw=>by
               simp only[List.nil_append,Nat.zero_add] at hw
               first|exact hw.back (hO:=by exact List.Sublist.refl _)|exact hw.Ic.back (hO:=by exact List.Sublist.refl _))
            · trivial
         · refine zB (i:=4) (h:=λ x7=>?_)
           all_goals (((refine cR (h:=λ x6=>?_);try (refine aK (λ h6=>?_))));((refine cR (h:=λ x10=>?_);try (refine aK (λ h10=>?_))));refine eT ?_;refine wW ?_)
           all_goals
            refine fM ((x6,x10)) ?_ (hw1:=λ w hw=>by
               simp only[List.nil_append,Nat.zero_add] at hw
               first|exact hw.back (hO:=by exact List.Sublist.refl _)|exact hw.Ic.back (hO:=by exact List.Sublist.refl _))
            · trivial
      · refine zB (i:=4) (h:=λ x7=>?_)
        all_goals (refine Eb (h:=λ x3=>?_);((refine cR (h:=λ x6=>?_);try (refine aK (λ h6=>?_))));((refine cR (h:=λ x10=>?_);try (refine aK (λ h10=>?_))));refine eT ?_;refine wW ?_)
        all_goals
         refine fM ((x6,x10)) ?_ (hw1:=λ w hw=>by
            simp only[List.nil_append,Nat.zero_add] at hw
            first|exact hw.back (hO:=by exact List.Sublist.refl _)|exact hw.Ic.back (hO:=by exact List.Sublist.refl _))
         · trivial
   dsimp only[gW,List.map,List.cons_append,List.nil_append]
  all_goals
   refine bH Tryz.results22 (λ w hw=>?_)
   exact⟨j,rfl,⟨hw.eb .head,hw.y4 (.tail .head)⟩,hw.aV⟩
end

end Go.Proofs.YtpobgmdalcpomaaGreat
