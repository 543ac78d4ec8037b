/- Merged. -/
import Derived.Test.YtbajmaoegmbfgaaGreatGPa1
import Derived.Test.YtbajmaoegmbfgaaGreatGAr4
import Derived.Test.YtbajmaoegmbfgaaGreatAuto
import Derived.Test.YtbajmaoegmbfgaaGreatGNode2
set_option linter.unusedSimpArgs false
set_option linter.unusedVariables false
namespace Go.Ct
open Go Go.RowKit
section
def oL(n:Nat)(i:Int):Bool:=decide (0<=i)&&(decide (i<64)&&n.testBit i.toNat)
theorem ye(n:Nat){i:Int}(h:i<0):oL n i=false:=by simp[oL];omega
theorem Wr(n:Nat){i:Int}(h:64<=i):oL n i=false:=by simp[oL];omega
theorem tZ(n:Nat){i:Int}(h0:0<=i)(h1:i<64):oL n i=n.testBit i.toNat:=by simp[oL,h0,h1]
theorem W5{n:Nat}(hn:n<18446744073709551616){i:Int}(h0:0<=i)(h1:i<64):(pG .u64 (pQ .u64 (n:Int) i) 1==1)=oL n i:=by
 obtain⟨k,rfl⟩:=Int.eq_ofNat_of_zero_le h0;rw[tZ n h0 h1,pA (by omega)];have h2:pG .u64 ((n >>> k:Nat):Int) 1=(((n >>> k) &&& 1:Nat):Int):=pB (Nat.lt_of_le_of_lt (Nat.shiftRight_le _ _) hn) (m:=1) (by decide);rw[h2];simp only[Int.toNat_natCast,Nat.testBit,Nat.and_comm 1]
 rw[Nat.and_one_is_mod];rcases Nat.mod_two_eq_zero_or_one (n >>> k) with h|h<;>rw[h]<;>rfl
def mH(n:Nat)(i:Int):Nat:=fP n (min i.toNat 64)
theorem o7(n:Nat){i:Nat}:∀k,i<=k->fP (n &&& (2^i-1)) k=fP n i:=by
 intro k hk;obtain⟨d,rfl⟩:=Nat.exists_eq_add_of_le hk;clear hk;induction d with
 | zero=>exact Dd λ j hj=>by rw[Nat.testBit_and,Nat.testBit_two_pow_sub_one];simp;intro _;omega
 | succ d ih=>rw[<- Nat.add_assoc];simp only[fP,ih,Nat.testBit_and,Nat.testBit_two_pow_sub_one];simp
theorem vl{n:Nat}(hn:n<18446744073709551616){i:Int}(h0:0<i)(h1:i<64):xK (pG .u64 (n:Int) (IntKind.u64.wrap (Up .u64 1 i-1)))=((mH n i:Nat):Int):=by
 obtain⟨k,rfl⟩:=Int.eq_ofNat_of_zero_le (Int.le_of_lt h0);have hp:=Nat.pow_lt_pow_right (a:=2) (by decide) (show k<64 by omega);have hp0:=Nat.two_pow_pos k;rw[Rz (by omega)];have e:((2^k:Nat):Int)-1=((2^k-1:Nat):Int):=by omega
 rw[e,mG (by omega),pB hn (by omega),nX (Nat.lt_of_le_of_lt Nat.and_le_left hn),o7 n 64 (by omega)];unfold mH;rw[Int.toNat_natCast,Nat.min_eq_left (by omega)]
def dX(n:Nat)(i:Int):Nat:=if 0<=i/\i<64 then n ||| 2^i.toNat else n
def wM(n:Nat)(i:Int):Nat:=if 0<=i/\i<64 then n ^^^ (n &&& 2^i.toNat) else n
theorem jl{n:Nat}(hn:n<18446744073709551616){i:Int}(h0:0<=i)(h1:i<64):rOr .u64 (n:Int) (Up .u64 1 i)=((dX n i:Nat):Int):=by obtain⟨k,rfl⟩:=Int.eq_ofNat_of_zero_le h0;have hp:=Nat.pow_lt_pow_right (a:=2) (by decide) (show k<64 by omega);rw[Rz (by omega),vv hn (by omega),dX,if_pos ⟨h0,h1⟩];rfl
theorem B4{n:Nat}(hn:n<18446744073709551616)(i:Int):dX n i<18446744073709551616:=by
 unfold dX;split;·rename_i h;have hp:=Nat.pow_lt_pow_right (a:=2) (by decide) (show i.toNat<64 by omega);exact Nat.or_lt_two_pow (n:=64) hn hp
 ·exact hn
end
end Go.Ct
namespace Go.Proofs.YtbajmaoegmbfgaaGreat
open Go.Proofs.Tryz
open Go.RowKit Go.Ct
section
variable{n:Nat}
theorem Il(hn:n<18446744073709551616)(i:Int)(w:World):Calls prog 195 #[.int .u64 (n:Int),.int .i64 i] w λ e w'=>e=.returned (.bool (oL n i))/\St w [] [] w':=by
 refine enter func195 ntmps195 rfl rfl (SF.s0 w) ?_;simp only[cC];refine Kb4 ?_;refine lK ?_;refine aA ?_;(refine eF 7 (λ g7=>?_) (λ g7=>?_)<;>refine Ka0 ?_);all_goals (refine yk ?_;refine aA ?_)
 all_goals (first|refine aI ?_|(refine eF 11 (λ g11=>?_) (λ g11=>?_)<;>refine Ka0 ?_))
 all_goals (refine Ka0 ?_;(first|refine aI ?_|(refine aF ?_;refine gP ?_));(first|refine aI ?_|(refine aF ?_;refine D3 ?_));(first|refine aI ?_|(refine aF ?_;refine Av ?_));refine xF ?_;refine J1 ?_)
 all_goals
 refine aS results195 (λ w hw=>?_);first|(rw[ye n (by omega)];exact⟨rfl,hw.done⟩)|(rw[Wr n (by omega)];exact⟨rfl,hw.done⟩)|(rw[<- W5 hn (by omega) (by omega)];exact⟨rfl,hw.done⟩)
theorem Yu(i:Int)(w:World):Calls prog 232 #[.int .i64 i] w λ e w'=>e=.returned (.bool (decide (0<=i/\i<64)))/\St w [] [] w':=by
 refine enter func232 ntmps232 rfl rfl (SF.s0 w) ?_;simp only[cC];refine Kb4 ?_;refine lK ?_;refine aA ?_;(refine eF 5 (λ g5=>?_) (λ g5=>?_)<;>refine Ka0 ?_);all_goals (refine yk ?_;refine J1 ?_)
 all_goals
 refine aS results232 (λ w hw=>?_);first|(rw[decide_eq_false (by omega)];exact⟨rfl,hw.done⟩)|(rw[show decide (0<=i/\i<64)=decide (i<64) by simp;omega];exact⟨rfl,hw.done⟩)
theorem aD0(hn:n<18446744073709551616)(i:Int)(w:World):Calls prog 191 #[.int .u64 (n:Int),.int .i64 i] w λ e w'=>e=.returned (.bool (oL n i))/\St w [] [] w':=by
 refine enter func191 ntmps191 rfl rfl (SF.s0 w) ?_;simp only[cC];refine Kb4 ?_;refine aN (cV (hc:=λ w1 hw=>Yu i w1)) (λ x6=>?_);refine aA ?_;(refine eF 7 (λ g7=>?_) (λ g7=>?_)<;>refine Ka0 ?_);all_goals (refine Ka0 ?_;(first|refine aI ?_|(refine aF ?_;refine gP ?_));(first|refine aI ?_|(refine aF ?_;refine D3 ?_));(first|refine aI ?_|(refine aF ?_;refine Av ?_));refine xF ?_;refine J1 ?_)
 all_goals
 refine aS results191 (λ w hw=>?_);first|(rw[<- W5 hn (by omega) (by omega)];exact⟨rfl,hw.done⟩)|(rw[show oL n i=false by simp[oL];omega];exact⟨rfl,hw.done⟩)
theorem Pw(hn:n<18446744073709551616)(i:Int)(w:World):Calls prog 207 #[.int .u64 (n:Int),.int .i64 i] w λ e w'=>e=.returned (.int .i64 ((mH n i:Nat):Int))/\St w [] [] w':=by
 refine enter func207 ntmps207 rfl rfl (SF.s0 w) ?_;simp only[cC];refine cX ?_;refine Fh ?_;refine E9 ?_;refine gK [5,6,7,8,9,10,11,12,13,14,15,16,17,18,19,20] (λ k=>[(5,.int .i64 ((fP n k:Nat):Int)),(6,.int .i64 ((k:Nat):Int))]) (λ k=>k<=64/\(k:Int)<=max i 0) (λ k=>64-k) (0) (⟨by decide,by omega⟩) ?_ (λ k f hx=>?_);·repeat (first|exact bF _|refine bB (by exact rfl) ?_)
 refine K0a ?_;have hcl:=Am n k;refine kF ?_;refine Au ?_;(refine eF 9 (λ g9=>?_) (λ g9=>?_)<;>refine Ka0 ?_);all_goals (refine Ka0 ?_;refine yk ?_;refine aG ?_)
 all_goals
 refine bD (λ c13=>?_) (λ c13=>?_)
 ·try exact nv c13
  all_goals (refine sG ?_;refine iZ ?_;refine aN (cV (hc:=λ w1 hw=>Il hn (k:Int) w1)) (λ x18=>?_);refine aG ?_)
  all_goals
   refine bD (λ c18=>?_) (λ c18=>?_)
   ·refine vB ?_;refine Kb2 ?_;refine eN (k+1) ?_ ?_ ?_;·omega
    ·repeat' (first|exact bF _|refine bB ?_ ?_)
     all_goals (first|exact rfl|(rw[tZ n (by omega) (by omega),Int.toNat_natCast] at *;conv=>{lhs;whnf};congr 2;simp only[fP];simp_all;done))
    ·omega
   ·refine Kc5 ?_;refine eN (k+1) ?_ ?_ ?_;·omega
    ·repeat' (first|exact bF _|refine bB ?_ ?_)
     all_goals (first|exact rfl|(rw[tZ n (by omega) (by omega),Int.toNat_natCast] at *;conv=>{lhs;whnf};congr 2;simp only[fP];simp_all;done))
    ·omega
 ·all_goals (refine bS rfl ?_;refine Ka5 ?_)
  all_goals
   refine aS results207 (λ w hw=>?_);have:mH n i=fP n k:=by unfold mH;congr 1;omega
   rw[this];exact⟨rfl,hw.done⟩
theorem U3(hn:n<18446744073709551616)(w:World):Calls prog 170 #[.int .u64 (n:Int)] w λ e w'=>e=.returned (.int .i64 ((fP n 64:Nat):Int))/\St w [] [] w':=by refine enter func170 ntmps170 rfl rfl (SF.s0 w) ?_;simp only[cC];refine Kb4 ?_;refine aN (cV (hc:=λ w1 hw=>Pw hn 64 w1)) (λ x4=>?_);refine J1 ?_;refine aS results170 (λ w hw=>?_);exact⟨rfl,hw.done⟩
theorem ny(hn:n<18446744073709551616)(w:World):Calls prog 198 #[.int .u64 (n:Int)] w λ e w'=>e=.returned (.int .i64 ((fP n 64:Nat):Int))/\St w [] [] w':=by rw[<- nX hn];exact Ob _ w
theorem aDm(hn:n<18446744073709551616)(i:Int)(w:World):Calls prog 192 #[.int .u64 (n:Int),.int .i64 i] w λ e w'=>e=.returned (.int .i64 ((mH n i:Nat):Int))/\St w [] [] w':=by
 refine enter func192 ntmps192 rfl rfl (SF.s0 w) ?_;simp only[cC];refine Ka6 ?_;refine wB ?_;refine aG ?_;refine bD (λ c6=>?_) (λ c6=>?_);·refine cX ?_;refine aS results192 (λ w hw=>?_);(rw[show mH n i=0 by unfold mH;rw[show min i.toNat 64=0 by omega];rfl];exact⟨rfl,hw.done⟩)
 ·refine lH ?_;refine J2 ?_;refine lK ?_;refine aG ?_;refine bD (λ c8=>?_) (λ c8=>?_);·refine J2 ?_;(refine aN (by exact cV (hc:=λ w1 hw=>ny hn w1)) (λ x10=>?_));refine J1 ?_;refine aS results192 (λ w hw=>?_);(rw[show mH n i=fP n 64 by unfold mH;congr 1;omega];exact⟨rfl,hw.done⟩)
  ·refine Ar ?_;refine gP ?_;refine aAm ?_;refine aDX ?_;refine Av ?_;(refine aN (by exact cV (hc:=λ w1 hw=>Ob (pG .u64 (n:Int) (IntKind.u64.wrap (Up .u64 1 i-1))) w1)) (λ x17=>?_));refine J1 ?_;refine aS results192 (λ w hw=>?_);(rw[<- vl hn (by omega) (by omega)];exact⟨rfl,hw.done⟩)
theorem nT(hn:n<18446744073709551616)(i:Int)(w:World):Calls prog 254 #[.int .u64 (n:Int),.int .i64 i] w λ e w'=>e=.returned (.int .u64 ((dX n i:Nat):Int))/\St w [] [] w':=by
 refine enter func254 ntmps254 rfl rfl (SF.s0 w) ?_;simp only[cC];refine Ka6 ?_;refine Au ?_;(refine eF 7 (λ g7=>?_) (λ g7=>?_)<;>refine Ka0 ?_);all_goals (refine Ka7 ?_)
 all_goals
 refine bD (λ c10=>?_) (λ c10=>?_)
 ·all_goals (refine Ka5 ?_)
  all_goals refine aS results254 (λ w hw=>?_);(rw[show dX n i=n by unfold dX;rw[if_neg (by omega)]];exact⟨rfl,hw.done⟩)
 ·try exact nv c10
  all_goals (refine Ar ?_;refine gP ?_;refine aAm ?_;refine aEy ?_;refine J1 ?_)
  all_goals refine aS results254 (λ w hw=>?_);(rw[<- jl hn (by omega) (by omega)];exact⟨rfl,hw.done⟩)
end
end Go.Proofs.YtbajmaoegmbfgaaGreat
namespace Go.Ct
open Go Go.RowKit
section
def nY(b:Nat)(xs:List Int)(k:Nat):Option Int:=if b.testBit k=true then some (xs.getD (fP b k) 0) else none
def B6(m:Nat->Option Int):Nat->Nat
 | 0=>0
 | k+1=>if(m k).isSome=true then B6 m k ||| 2^k else B6 m k
def oC(m:Nat->Option Int):Nat->List Int
 | 0=>[]
 | k+1=>oC m k++(m k).toList
def Lw(m:Nat->Option Int)(i:Nat)(o:Option Int)(k:Nat):Option Int:=if k=i then o else m k
structure BV(b:Nat)(xs:List Int):Prop where
 lt:b<18446744073709551616
 len:xs.length=fP b 64
 pos:∀i,i<xs.length->1<=xs.getD i 0
theorem Vw(m:Nat->Option Int)(j:Nat):∀k,(B6 m k).testBit j=(decide (j<k)&&(m j).isSome)
 | 0=>by simp[B6]
 | k+1=>by
  have ih:=Vw m j k;simp only[B6];by_cases hjk:j=k
  ·subst hjk;by_cases h:(m j).isSome=true;·rw[if_pos h,Nat.testBit_or,Nat.testBit_two_pow];simp[h]
   ·rw[if_neg h,ih];simp at h;simp[h]
  ·have h2:(2^k).testBit j=false:=by rw[Nat.testBit_two_pow];exact decide_eq_false (λ h=>hjk h.symm)
   split;·rw[Nat.testBit_or,ih,h2,Bool.or_false];congr 1;exact decide_eq_decide.2 (by omega)
   ·rw[ih];congr 1;exact decide_eq_decide.2 (by omega)
theorem sb(m:Nat->Option Int):∀k,B6 m k<2^k
 | 0=>by simp[B6]
 | k+1=>by
  have ih:=sb m k;have h2:2^(k+1)=2^k+2^k:=by rw[Nat.pow_succ];omega
  simp only[B6];split;·refine Nat.or_lt_two_pow (by omega) ?_;have:=Nat.two_pow_pos k;omega
  ·omega
theorem Di{xs:List Int}{i:Nat}(h:i<xs.length):xs.getD i 0∈xs:=by rw[jA,List.getElem?_eq_getElem h];exact List.getElem_mem h
theorem Q5{m m':Nat->Option Int}:∀n,(∀k,k<n->m k=m' k)->B6 m n=B6 m' n/\oC m n=oC m' n
 | 0,_=>⟨rfl,rfl⟩
 | n+1,h=>by obtain⟨h1,h2⟩:=Q5 n λ k hk=>h k (by omega);simp only[B6,oC,h1,h2,h n (by omega),and_self]
theorem xI(b:Nat)(k:Nat):∀d,fP b k<=fP b (k+d)
 | 0=>Nat.le_refl _
 | d+1=>by have:=xI b k d;rw[<- Nat.add_assoc];simp only[fP];omega
theorem pV{b k n:Nat}(h:k<n)(hb:b.testBit k=true):fP b k<fP b n:=by obtain⟨d,rfl⟩:=Nat.exists_eq_add_of_le (Nat.succ_le_of_lt h);have:=xI b (k+1) d;simp only[fP,hb,if_true] at this;exact this
theorem V5{b:Nat}{xs:List Int}(h:xs.length=fP b 64):∀k,k<=64->oC (nY b xs) k=xs.take (fP b k)
 | 0,_=>by simp[oC,fP]
 | k+1,hk=>by
  have ih:=V5 h k (by omega);simp only[oC,ih,nY,fP];split;·rename_i hb;have:=pV (n:=64) (by omega) hb;rw[List.take_add_one,Option.toList,jA,List.getElem?_eq_getElem (by omega)];rfl
  ·simp
theorem Uu{b:Nat}{xs:List Int}(h:BV b xs):B6 (nY b xs) 64=b/\oC (nY b xs) 64=xs:=by
 refine⟨Nat.eq_of_testBit_eq λ j=>?_,?_⟩
 ·rw[Vw];by_cases hj:j<64;·rw[decide_eq_true hj,Bool.true_and];unfold nY;cases hb:b.testBit j<;>simp
  ·rw[decide_eq_false hj,Bool.false_and];exact(Nat.testBit_lt_two_pow (Nat.lt_of_lt_of_le h.lt (Nat.pow_le_pow_right (n:=2) (by decide) (show 64<=j by omega)))).symm
 ·rw[V5 h.len 64 (Nat.le_refl _),<- h.len,List.take_length]
theorem By{b b' i:Nat}(h:b.testBit i=false)(hb:∀j,j<64->b'.testBit j=(b.testBit j||decide (j=i))):∀k,k<=64->fP b' k=fP b k+if i<k then 1 else 0
 | 0,_=>rfl
 | k+1,hk=>by
  have ih:=By h hb k (by omega);simp only[fP,ih,hb k (by omega)];by_cases hki:k=i;·subst hki;simp[h]
  ·have:decide (k=i)=false:=decide_eq_false hki;rw[this,Bool.or_false];have e:(i<k+1)↔(i<k):=by omega
   simp only[e];omega
def uY(xs:List Int)(p:Nat)(r:Int):List Int:=xs.take p++r::xs.drop p
def rT(xs:List Int)(p:Nat)(r:Int):List Int:=xs.take p++r::xs.drop (p+1)
def tD(xs:List Int)(p:Nat):List Int:=xs.take p++xs.drop (p+1)
variable{xs:List Int}{p:Nat}
theorem F5(hp:p<=xs.length)(r:Int):(uY xs p r).length=xs.length+1:=by simp[uY];omega
theorem wY(hp:p<xs.length)(r:Int):(rT xs p r).length=xs.length:=by simp[rT];omega
theorem Hy(hp:p<xs.length):(tD xs p).length+1=xs.length:=by simp[tD];omega
theorem Xa(hp:p<=xs.length)(r:Int)(q:Nat):(uY xs p r).getD q 0=if q<p then xs.getD q 0 else if q=p then r else xs.getD (q-1) 0:=by
 simp only[uY,jA];by_cases h1:q<p;·rw[if_pos h1,List.getElem?_append_left (by simp;omega),List.getElem?_take_of_lt h1]
 ·rw[if_neg h1,List.getElem?_append_right (by simp;omega)];have:(xs.take p).length=p:=by simp;omega
  rw[this];by_cases h2:q=p;·subst h2;simp
  ·obtain⟨d,hd⟩:∃d,q-p=d+1:=⟨q-p-1,by omega⟩;rw[if_neg h2,hd,List.getElem?_cons_succ,List.getElem?_drop];congr 2;omega
theorem Nf(hp:p<xs.length)(r:Int)(q:Nat):(rT xs p r).getD q 0=if q=p then r else xs.getD q 0:=by
 simp only[rT,jA];by_cases h1:q<p;·rw[if_neg (by omega),List.getElem?_append_left (by simp;omega),List.getElem?_take_of_lt h1]
 ·rw[List.getElem?_append_right (by simp;omega)];have:(xs.take p).length=p:=by simp;omega
  rw[this];by_cases h2:q=p;·subst h2;simp
  ·obtain⟨d,hd⟩:∃d,q-p=d+1:=⟨q-p-1,by omega⟩;rw[if_neg h2,hd,List.getElem?_cons_succ,List.getElem?_drop];congr 2;omega
theorem Wo(hp:p<xs.length)(q:Nat):(tD xs p).getD q 0=if q<p then xs.getD q 0 else xs.getD (q+1) 0:=by
 simp only[tD,jA];by_cases h1:q<p;·rw[if_pos h1,List.getElem?_append_left (by simp;omega),List.getElem?_take_of_lt h1]
 ·rw[if_neg h1,List.getElem?_append_right (by simp;omega)];have:(xs.take p).length=p:=by simp;omega
  rw[this,List.getElem?_drop];congr 2;omega
theorem Dh{ys:List Int}(h:∀i,i<xs.length->1<=xs.getD i 0)(hy:∀j,j<ys.length->1<=ys.getD j 0∨∃i,i<xs.length/\ys.getD j 0=xs.getD i 0):∀j,j<ys.length->1<=ys.getD j 0:=λ j hj=>by
 rcases hy j hj with h1|⟨i,hi,he⟩;·exact h1
 ·rw[he];exact h i hi
section
variable{b i:Nat}{xs:List Int}{r:Int}
theorem Bd(b i:Nat)(j:Nat):(b ||| 2^i).testBit j=(b.testBit j||decide (j=i)):=by rw[Nat.testBit_or,Nat.testBit_two_pow];congr 1;exact decide_eq_decide.2 eq_comm
theorem xA(b i:Nat)(j:Nat):(b ^^^ (b &&& 2^i)).testBit j=(b.testBit j&&!decide (j=i)):=by rw[Nat.testBit_xor,Nat.testBit_and,Nat.testBit_two_pow];have:decide (i=j)=decide (j=i):=decide_eq_decide.2 eq_comm;rw[this];cases b.testBit j<;>cases decide (j=i)<;>rfl
theorem Ix(h:BV b xs)(hi:i<64)(hb:b.testBit i=false)(hr:1<=r):BV (b ||| 2^i) (uY xs (fP b i) r)/\∀k,k<64->nY (b ||| 2^i) (uY xs (fP b i) r) k=Lw (nY b xs) i (some r) k:=by
 have hc:=By hb (λ j _=>Bd b i j)
 have hp:fP b i<=xs.length:=by obtain⟨d,hd⟩:=Nat.exists_eq_add_of_le (Nat.le_of_lt hi);rw[h.len,hd];exact xI b i d
 refine⟨⟨Nat.or_lt_two_pow (n:=64) h.lt (Nat.pow_lt_pow_right (a:=2) (by decide) hi),?_,Dh h.pos λ j hj=>?_⟩,λ k hk=>?_⟩;·rw[F5 hp,hc 64 (Nat.le_refl _),if_pos hi,h.len]
 ·rw[F5 hp] at hj;rw[Xa hp];by_cases h1:j<fP b i;·rw[if_pos h1];exact .inr ⟨j,by omega,rfl⟩
  ·rw[if_neg h1];by_cases h2:j=fP b i;·rw[if_pos h2];exact .inl hr
   ·rw[if_neg h2];exact .inr ⟨j-1,by omega,rfl⟩
 ·simp only[nY,Lw];rw[Bd,hc k (by omega),Xa hp];by_cases hki:k=i;·subst hki;simp
  ·rw[if_neg hki,decide_eq_false hki,Bool.or_false];by_cases hbk:b.testBit k=true
   ·rw[if_pos hbk,if_pos hbk];congr 1;by_cases hlt:k<i;·have:=pV hlt hbk;rw[if_neg (show ¬i<k by omega),if_pos (by omega)];rfl
    ·have:fP b i<=fP b k:=by obtain⟨d,hd⟩:=Nat.exists_eq_add_of_le (show i<=k by omega);rw[hd];exact xI b i d
     rw[if_pos (show i<k by omega),if_neg (by omega),if_neg (by omega)];rfl
   ·rw[if_neg hbk,if_neg hbk]
theorem Un(h:BV b xs)(hi:i<64)(hb:b.testBit i=true)(hr:1<=r):BV b (rT xs (fP b i) r)/\∀k,k<64->nY b (rT xs (fP b i) r) k=Lw (nY b xs) i (some r) k:=by
 have hp:fP b i<xs.length:=by rw[h.len];exact pV hi hb
 refine⟨⟨h.lt,by rw[wY hp,h.len],Dh h.pos λ j hj=>?_⟩,λ k hk=>?_⟩
 ·rw[wY hp] at hj;rw[Nf hp];by_cases h2:j=fP b i;·rw[if_pos h2];exact .inl hr
  ·rw[if_neg h2];exact .inr ⟨j,hj,rfl⟩
 ·simp only[nY,Lw];rw[Nf hp];by_cases hki:k=i;·subst hki;rw[if_pos hb,if_pos rfl,if_pos rfl]
  ·rw[if_neg hki];by_cases hbk:b.testBit k=true
   ·rw[if_pos hbk,if_pos hbk,if_neg];rcases Nat.lt_or_gt_of_ne hki with hlt|hlt;·have:=pV hlt hbk;omega
    ·have:=pV hlt hb;omega
   ·rw[if_neg hbk,if_neg hbk]
theorem U7(h:BV b xs)(hi:i<64)(hb:b.testBit i=true):BV (b ^^^ (b &&& 2^i)) (tD xs (fP b i))/\∀k,k<64->nY (b ^^^ (b &&& 2^i)) (tD xs (fP b i)) k=Lw (nY b xs) i none k:=by
 have hp:fP b i<xs.length:=by rw[h.len];exact pV hi hb
 have hb':(b ^^^ (b &&& 2^i)).testBit i=false:=by rw[xA];simp
 have hc:=By (b':=b) hb' (λ j _=>by
  rw[xA];by_cases hji:j=i;·subst hji;simp[hb]
  ·rw[decide_eq_false hji];simp)
 refine⟨⟨Nat.xor_lt_two_pow (n:=64) h.lt (Nat.lt_of_le_of_lt Nat.and_le_left h.lt),?_,Dh h.pos λ j hj=>?_⟩,λ k hk=>?_⟩;·have:=Hy hp;have:=hc 64 (Nat.le_refl _);rw[if_pos hi] at this;have:=h.len;omega
 ·have:=Hy hp;rw[Wo hp];by_cases h1:j<fP b i;·rw[if_pos h1];exact .inr ⟨j,by omega,rfl⟩
  ·rw[if_neg h1];exact .inr ⟨j+1,by omega,rfl⟩
 ·simp only[nY,Lw];have hck:=hc k (by omega);rw[xA,Wo hp];by_cases hki:k=i;·subst hki;simp
  ·rw[if_neg hki,decide_eq_false hki,Bool.not_false,Bool.and_true];by_cases hbk:b.testBit k=true
   ·rw[if_pos hbk,if_pos hbk];congr 1;by_cases hlt:k<i;·have:=pV hlt hbk;rw[if_neg (show ¬i<k by omega)] at hck;rw[if_pos (by omega),hck];rfl
    ·have:=pV (show i<k by omega) hb;rw[if_pos (show i<k by omega)] at hck;rw[if_neg (by omega),hck]
   ·rw[if_neg hbk,if_neg hbk]
end
end
section
variable{w0 w:World}{M:List Nat}{H:List (Nat×Obj)}{A F:Fr}{O:List Ow}
end
end Go.Ct
namespace Go.Proofs.YtbajmaoegmbfgaaGreat
open Go.Proofs.Tryz
open Go.RowKit Go.Ct
section
theorem uG{n:Nd}{xs:List Int}{ys:List Pr}(h:n.kind=3)(hv:cJ n xs ys):(xs.length:Int)=xK n.bm/\Pos xs:=by obtain⟨_,_,_,_,hv⟩:=hv;rcases hv with h1|⟨h1,_⟩|⟨_,h2,h3⟩|⟨h1|h1,_⟩|⟨h1,_⟩|⟨h1,_⟩|⟨h1,_⟩;all_goals first|exact⟨h2,h3⟩|(rw[h] at h1;exact absurd h1 (by decide))
end
section
variable{n:Nd}{xs:List Int}{ys:List Pr}
theorem aBT(n : Nd)(h1 : 1 ≤ n.kind)(h8 : n.kind ≤ 8)(w : World) : Calls prog 169 #[n.v] w fun e w' => e = .returned n.own.v ∧ St w [] [] w' := by
 refine enter func169 ntmps169 rfl rfl (SF.s0 w) ?_;simp only [cC];refine J0 ?_; refine bL (fun x1 => ?_); refine aJ (fun x2 => ?_); refine aG ?_; refine B9 ?_; refine aG ?_; refine cR ?_; refine lN ?_;refine bD (fun c5 => ?_) (fun c5 => ?_);·refine iB ?_; refine xX ?_;refine aY results169 (fun w hw => ?_);(exact ⟨by simp only [Nd.own, beq_iff_eq, *, if_true, if_false]; rfl, hw.done⟩)
 ·refine lN ?_;refine bD (fun c10 => ?_) (fun c10 => ?_);·refine iB ?_; refine J3 ?_; refine J3 ?_; refine xX ?_;refine aY results169 (fun w hw => ?_);(exact ⟨by simp only [Nd.own, beq_iff_eq, *, if_true, if_false]; rfl, hw.done⟩)
  ·refine lN ?_;refine bD (fun c19 => ?_) (fun c19 => ?_);·refine iB ?_; refine J3 ?_; refine J3 ?_; refine J3 ?_; refine xX ?_;refine aY results169 (fun w hw => ?_);(exact ⟨by simp only [Nd.own, beq_iff_eq, *, if_true, if_false]; rfl, hw.done⟩)
   ·refine lN ?_;refine bD (fun c30 => ?_) (fun c30 => ?_);·refine iB ?_; refine J3 ?_; refine J3 ?_; refine J3 ?_; refine xX ?_;refine aY results169 (fun w hw => ?_);(exact ⟨by simp only [Nd.own, beq_iff_eq, *, if_true, if_false]; rfl, hw.done⟩)
    ·refine lN ?_;refine bD (fun c41 => ?_) (fun c41 => ?_);·refine iB ?_; refine J3 ?_; refine J3 ?_; refine J3 ?_; refine J3 ?_; refine xX ?_;refine aY results169 (fun w hw => ?_);(exact ⟨by simp only [Nd.own, beq_iff_eq, *, if_true, if_false]; rfl, hw.done⟩)
     ·refine lN ?_;refine bD (fun c54 => ?_) (fun c54 => ?_);·refine iB ?_; refine J3 ?_; refine J3 ?_; refine J3 ?_; refine xX ?_;refine aY results169 (fun w hw => ?_);(exact ⟨by simp only [Nd.own, beq_iff_eq, *, if_true, if_false]; rfl, hw.done⟩)
      ·refine lN ?_;refine bD (fun c65 => ?_) (fun c65 => ?_);·refine iB ?_; refine J3 ?_; refine xX ?_;refine aY results169 (fun w hw => ?_);(exact ⟨by simp only [Nd.own, beq_iff_eq, *, if_true, if_false]; rfl, hw.done⟩)
       ·refine lN ?_;refine bD (fun c72 => ?_) (fun c72 => ?_);·refine iB ?_; refine J3 ?_; refine J3 ?_; refine J3 ?_; refine J3 ?_; refine xX ?_;refine aY results169 (fun w hw => ?_);(exact ⟨by simp only [Nd.own, beq_iff_eq, *, if_true, if_false]; rfl, hw.done⟩)
        ·refine pP ?_; refine J0 ?_; refine xX ?_;refine aY results169 (fun w hw => ?_);(exfalso; omega)
theorem ei(h:n.kind=3){k:Nat}(hk:k<xs.length)(hx:xs.getD k 0<1):false=true↔cJ n xs ys:=by simp only[Bool.false_eq_true,false_iff];intro hv;have:=(uG h hv).2 k hk;omega
theorem ve{c:Int}(h:n.kind=3)(he:tG n n.own xs (n.jR xs) ys (n.jP ys))(h1:0<=n.main)(h2:0<=n.prev)(h3:0<=n.status)(eo:xK n.bm=c)(hp:Pos xs):((xs.length:Int)==c)=true↔cJ n xs ys:=by rw[beq_iff_eq,<- eo];exact⟨λ hl=>⟨he,h1,h2,h3,.inr (.inr (.inl ⟨h,hl,hp⟩))⟩,λ hv=>(uG h hv).1⟩
theorem zU{w:World}{b:Nat}(hb:n.bm=(b:Int))(hb2:b<18446744073709551616)(hr:sE w n xs ys) :
  Calls prog 126 #[n.v] w λ e w'=>∃r:Bool,e=.returned (.bool r)/\(r=true↔cJ n xs ys)/\St w [] [] w':=by
 have e1:=hr.brN;have e2:=hr.prN;obtain⟨kind,gen,main,bm,brA,brN,brC,hash,key,val,prA,prN,prK,prev,bR,exp,new,status⟩:=n
 simp only at e1 e2 hb;subst e1 e2 hb;have eo:xK (b:Int)=((fP b 64:Nat):Int):=nX hb2;have hxl:=hr.brS;refine enter func126 ntmps126 rfl rfl (SF.s2 hr.br hr.pr) ?_;simp only[cC]
 simp only[Nd.v,Nd.cells];refine J0 ?_;refine bL (λ x1=>?_);refine jG ?_;refine aV ?_;refine eM [(0,[]),(1,[]),(2,[]),(3,[]),(4,[]),(5,[]),(6,[]),(7,[]),(8,[]),(9,[]),(10,[]),(11,[9]),(12,[]),(13,[]),(14,[]),(15,[]),(16,[]),(17,[]),(18,[]),(19,[]),(20,[]),(21,[]),(22,[]),(23,[]),(24,[]),(25,[]),(26,[]),(27,[]),(28,[]),(29,[])] ?_;refine mI ?_;refine D8 ?_;refine aT ?_;(refine qj 7 (λ g7=>?_) (λ g7=>?_)<;>(first|refine iA ?_|(refine aX ?_)));all_goals ((first|refine iA ?_|(refine bW ?_));(first|refine iA ?_|(refine aCX ?_));refine jY ?_;refine aT ?_)
 all_goals (first|refine iA ?_|(refine qj 12 (λ g12=>?_) (λ g12=>?_)<;>(first|refine iA ?_|(refine bW ?_))))
 all_goals ((first|refine iA ?_|(refine bW ?_));(first|refine iA ?_|(refine dD (i:=11) (hq:=(cV (hc:=λ w1 hw=>aBT (⟨kind,gen,main,(b:Int),brA,xs.length,brC,hash,key,val,prA,ys.length,prK,prev,bR,exp,new,status⟩:Nd) (show(1:Int)<=kind by omega) (show kind<=8 by omega) w1))) (h:=λ x15=>?_)));(first|refine iA ?_|(refine bK (i:=12) (hq:=(c0 (V:=.bool) (hc:=λ w1 hw=>vr (a:=(⟨kind,gen,main,(b:Int),brA,xs.length,brC,hash,key,val,prA,ys.length,prK,prev,bR,exp,new,status⟩:Nd)) (b:=((⟨kind,gen,main,(b:Int),brA,xs.length,brC,hash,key,val,prA,ys.length,prK,prev,bR,exp,new,status⟩:Nd)).own) (hr.fU hw.done) (hr.fU hw.done).own))) (h:=λ x16 h16=>?_)));(first|refine iA ?_|(refine ry ?_));refine jY ?_;refine aT ?_)
 all_goals (first|refine iA ?_|(refine qj 19 (λ g19=>?_) (λ g19=>?_)<;>(first|refine iA ?_|(refine aX ?_))))
 all_goals ((first|refine iA ?_|(refine bW ?_));(first|refine iA ?_|(refine D8 ?_));refine jY ?_;refine aT ?_)
 all_goals (first|refine iA ?_|(refine qj 24 (λ g24=>?_) (λ g24=>?_)<;>(first|refine iA ?_|(refine aX ?_))))
 all_goals ((first|refine iA ?_|(refine bW ?_));(first|refine iA ?_|(refine D8 ?_));refine jY ?_;refine aT ?_)
 all_goals (first|refine iA ?_|(refine qj 29 (λ g29=>?_) (λ g29=>?_)<;>(first|refine iA ?_|(refine aX ?_))))
 all_goals ((first|refine iA ?_|(refine bW ?_));(first|refine iA ?_|(refine D8 ?_));refine jY ?_;refine eS ?_)
 all_goals
 refine bD (λ c33=>?_) (λ c33=>?_)
 ·all_goals refine cX ?_
  all_goals refine K1r ?_;intro w hw;refine⟨_,rfl,?_,hw.done⟩;first|(simp_all[cJ];done)|(simp_all[cJ];omega)
 ·try exact nv c33
  all_goals (refine lH ?_;refine iB ?_;refine aG ?_;refine cR ?_;refine lN ?_)
  all_goals
   refine bD (λ c36=>?_) (λ c36=>?_);·refine iB ?_;refine lK ?_;refine J1 ?_;refine K1r ?_;intro w hw;refine⟨_,rfl,?_,hw.done⟩;(simp_all[cJ];done)
   ·refine lN ?_;refine bD (λ c41=>?_) (λ c41=>?_)
    ·refine aV ?_;refine E9 ?_;refine gK [2,3,43,44,45,46,47,48,49,50,51,52,53,54,55] (λ k=>[(3,.int .i64 ((k:Nat):Int))]) (λ k=>k<=xs.length/\∀i,i<k->1<=xs.getD i 0) (λ k=>xs.length-k) (0) (⟨Nat.zero_le _,λ i hi=>absurd hi (Nat.not_lt_zero i)⟩) ?_ (λ k f hx=>?_);·repeat (first|exact bF _|refine bB (by exact rfl) ?_)
     refine K0a ?_;refine kF ?_;refine Sx ?_;refine zR ?_;refine bD (λ c47=>?_) (λ c47=>?_)
     ·refine sG ?_;refine Kc3 ?_;refine Pz ?_;refine zR ?_;refine bD (λ c55=>?_) (λ c55=>?_);·refine cX ?_;refine K1r ?_;intro w hw;refine⟨_,rfl,?_,hw.done⟩;exact ei c41 (k:=k) (by omega) (by assumption)
      ·refine Kc5 ?_;refine eN (k+1) ?_ ?_ ?_;·omega
       ·repeat' (first|exact bF _|refine bB ?_ ?_)
        exact rfl
       ·exact⟨by omega,λ i hi=>by rcases Nat.lt_succ_iff_lt_or_eq.1 hi with h|rfl;exact hx.2 i h;omega⟩
     ·refine bS rfl ?_;refine aV ?_;refine eM [(0,[]),(1,[]),(2,[]),(3,[]),(4,[]),(5,[1]),(6,[]),(7,[])] ?_;refine mI ?_;refine pX ?_;refine mI ?_;refine dD (i:=5) (hq:=(cV (hc:=λ w1 hw=>U3 hb2 w1))) (h:=λ x61=>?_);refine oW ?_;refine J7 ?_;refine K1r ?_;intro w hw;refine⟨_,rfl,?_,hw.done⟩;exact ve c41 (h16.1 (by simpa using g19)) (show 0<=main by omega) (show 0<=prev by omega) (show 0<=status by omega) eo (λ i hi=>hx.2 i (by omega))
    ·refine aV ?_;refine lN ?_;refine bD (λ c63=>?_) (λ c63=>?_)
     ·refine aW ?_;refine bD (λ c63=>?_) (λ c63=>?_);·refine iB ?_;refine kT ?_;refine wB ?_;refine J1 ?_;refine K1r ?_;intro w hw;refine⟨_,rfl,?_,hw.done⟩;(simp_all[cJ];omega)
      ·refine lN ?_;refine bD (λ c70=>?_) (λ c70=>?_)
       ·refine iB ?_;refine dW ?_;refine lK ?_;refine aA ?_;(refine eF 76 (λ g76=>?_) (λ g76=>?_)<;>refine Ka1 ?_);all_goals (refine Ka2 ?_;(first|refine aI ?_|(refine aF ?_;refine aD (c0 (V:=.bool) (hc:=λ w1 hw=>mZ (hw.cl fin) hr.prS)) (λ x79 h79=>?_)));refine Kb9 ?_)
        all_goals (first|refine aI ?_|(refine eF 81 (λ g81=>?_) (λ g81=>?_)<;>refine Ka1 ?_))
        all_goals (refine Ka2 ?_;(first|refine aI ?_|(refine aF ?_;refine aD (c0 (V:=.bool) (hc:=λ w1 hw=>dw (hw.cl fin) hr.prS)) (λ x84 h84=>?_)));refine Kb8 ?_)
        all_goals
        refine K1r ?_;intro w hw;refine⟨_,rfl,?_,hw.done⟩;(simp_all[cJ];done)
       ·refine lN ?_;refine bD (λ c86=>?_) (λ c86=>?_);·refine iB ?_;refine lK ?_;refine J1 ?_;refine K1r ?_;intro w hw;refine⟨_,rfl,?_,hw.done⟩;(simp_all[cJ];done)
        ·refine lN ?_;refine bD (λ c91=>?_) (λ c91=>?_)
         ·refine iB ?_;refine lK ?_;refine aA ?_;(refine eF 96 (λ g96=>?_) (λ g96=>?_)<;>refine Ka1 ?_);all_goals (refine J86 ?_;refine Kb9 ?_)
          all_goals (first|refine aI ?_|(refine eF 101 (λ g101=>?_) (λ g101=>?_)<;>refine Ka1 ?_))
          all_goals (refine J86 ?_;refine Kb8 ?_)
          all_goals
          refine K1r ?_;intro w hw;refine⟨_,rfl,?_,hw.done⟩;(simp_all[cJ];done)
         ·refine Ka9 ?_;refine K1r ?_;intro w hw;refine⟨_,rfl,?_,hw.done⟩;(simp_all[cJ];done)
     ·refine dU ?_;refine S7 ?_;refine bD (λ c63=>?_) (λ c63=>?_);·refine iB ?_;refine kT ?_;refine wB ?_;refine J1 ?_;refine K1r ?_;intro w hw;refine⟨_,rfl,?_,hw.done⟩;(simp_all[cJ];omega)
      ·refine lN ?_;refine bD (λ c70=>?_) (λ c70=>?_)
       ·refine iB ?_;refine dW ?_;refine lK ?_;refine aA ?_;(refine eF 76 (λ g76=>?_) (λ g76=>?_)<;>refine Ka1 ?_);all_goals (refine Ka2 ?_;(first|refine aI ?_|(refine aF ?_;refine aD (c0 (V:=.bool) (hc:=λ w1 hw=>mZ (hw.cl fin) hr.prS)) (λ x79 h79=>?_)));refine Kb9 ?_)
        all_goals (first|refine aI ?_|(refine eF 81 (λ g81=>?_) (λ g81=>?_)<;>refine Ka1 ?_))
        all_goals (refine Ka2 ?_;(first|refine aI ?_|(refine aF ?_;refine aD (c0 (V:=.bool) (hc:=λ w1 hw=>dw (hw.cl fin) hr.prS)) (λ x84 h84=>?_)));refine Kb8 ?_)
        all_goals
        refine K1r ?_;intro w hw;refine⟨_,rfl,?_,hw.done⟩;first|(simp_all[cJ];done)|(simp_all[cJ];omega)
       ·refine lN ?_;refine bD (λ c86=>?_) (λ c86=>?_);·refine iB ?_;refine lK ?_;refine J1 ?_;refine K1r ?_;intro w hw;refine⟨_,rfl,?_,hw.done⟩;(simp_all[cJ];done)
        ·refine lN ?_;refine bD (λ c91=>?_) (λ c91=>?_)
         ·refine iB ?_;refine lK ?_;refine aA ?_;(refine eF 96 (λ g96=>?_) (λ g96=>?_)<;>refine Ka1 ?_);all_goals (refine J86 ?_;refine Kb9 ?_)
          all_goals (first|refine aI ?_|(refine eF 101 (λ g101=>?_) (λ g101=>?_)<;>refine Ka1 ?_))
          all_goals (refine J86 ?_;refine Kb8 ?_)
          all_goals
          refine K1r ?_;intro w hw;refine⟨_,rfl,?_,hw.done⟩;first|(simp_all[cJ];done)|(simp_all[cJ];omega)
         ·refine Ka9 ?_;refine K1r ?_;intro w hw;refine⟨_,rfl,?_,hw.done⟩;(simp_all[cJ];omega)
end
end Go.Proofs.YtbajmaoegmbfgaaGreat
namespace Go.Ct
open Go Go.RowKit
section
end
end Go.Ct
namespace Go.Proofs.YtbajmaoegmbfgaaGreat
open Go.Proofs.Tryz
section
open Go.RowKit Go.Ct
def CV(n:Nd)(xs:List Int)(ys:List Pr):Prop:=n.kind=3/\cJ n xs ys
theorem CV.bv{n:Nd}{xs:List Int}{ys:List Pr}{b:Nat}(h:CV n xs ys)(hb:n.bm=(b:Int))(hb2:b<18446744073709551616):BV b xs:=by obtain⟨h1,h2⟩:=uG h.1 h.2;rw[hb,nX hb2] at h1;exact⟨hb2,by omega,h2⟩
open Classical in
noncomputable def Ew (n:Nd) (xs:List Int) (ys:List Pr) (b:Nat) (i:Int):Option Int:=if CV n xs ys/\oL b i=true then some (xs.getD (mH b i) 0) else none
open Classical in
noncomputable def po (n:Nd) (xs:List Int) (ys:List Pr):Option Int:=if CV n xs ys/\xs.length=1 then some (xs.getD 0 0) else none
theorem sQ{b:Nat}{i:Int}(h:oL b i=true):0<=i/\i<64/\b.testBit i.toNat=true/\mH b i=fP b i.toNat:=by simp only[oL,Bool.and_eq_true,decide_eq_true_eq] at h;exact⟨h.1,h.2.1,h.2.2,by unfold mH;congr 1;omega⟩
theorem zn{b:Nat}{xs:List Int}(h:BV b xs){i:Int}(hh:oL b i=true):mH b i<xs.length:=by obtain⟨h1,h2,h3,h4⟩:=sQ hh;rw[h4,h.len];exact pV (by omega) h3
section
variable{n:Nd}{xs:List Int}{ys:List Pr}{w:World}{b:Nat}
theorem mu(hr:sE w n xs ys):Calls prog 190 #[n.v] w λ e w'=>∃r:Bool,e=.returned (.bool r)/\(r=true↔CV n xs ys)/\St w [] [] w':=by
 refine enter func190 ntmps190 rfl rfl (SF.s0 w) ?_;simp only[cC];simp only[Nd.v,Nd.cells];refine K1q ?_;intro x1;(refine eF 6 (λ g6=>?_) (λ g6=>?_)<;>refine Ka2 ?_);all_goals ((first|refine aI ?_|(refine aF ?_;refine aD (c0 (V:=.bool) (hc:=λ w1 hw=>K8 (n:=n) (hr.fU hw.done))) (λ x8 h8=>?_)));refine Kb8 ?_)
 all_goals
 refine aS results190 (λ w hw=>?_);refine⟨_,rfl,?_,hw.done⟩;simp_all[CV]
theorem ph(hb:n.bm=(b:Int))(hb2:b<18446744073709551616)(hr:sE w n xs ys):Calls prog 243 #[n.v] w λ e w'=>∃r:Bool,e=.returned (.bool r)/\(r=true↔CV n xs ys)/\St w [] [] w':=by
 refine enter func243 ntmps243 rfl rfl (SF.s0 w) ?_;simp only[cC];simp only[Nd.v,Nd.cells];refine K1q ?_;intro x1;(refine eF 6 (λ g6=>?_) (λ g6=>?_)<;>refine Ka2 ?_);all_goals ((first|refine aI ?_|(refine aF ?_;refine aD (c0 (V:=.bool) (hc:=λ w1 hw=>zU (n:=n) hb hb2 (hr.fU hw.done))) (λ x8 h8=>?_)));refine Kb8 ?_)
 all_goals
 refine aS results243 (λ w hw=>?_);refine⟨_,rfl,?_,hw.done⟩;simp_all[CV]
theorem r8(i:Int)(hb:n.bm=(b:Int))(hb2:b<18446744073709551616)(hr:sE w n xs ys):Calls prog 149 #[n.v,.int .i64 i] w λ e w'=>e=.returned (.tuple #[.int .i64 ((Ew n xs ys b i).getD 0),.bool (Ew n xs ys b i).isSome])/\St w [] [] w':=by
 have e1:=hr.brN;refine enter func149 ntmps149 rfl rfl (SF.s2 hr.br hr.pr) ?_;simp only[cC]
 simp only[Nd.v,Nd.cells,hb,e1];refine K1k ?_;intro x2;refine J8 ?_;refine aV ?_;refine nG ?_;refine aD (c0 (V:=.bool) (hc:=λ w1 hw=>by rw[<- e1,<- hb];exact mu (n:=n) (hr.fU hw.done))) (λ x7 h7=>?_);refine D5 ?_;(refine eF 9 (λ g9=>?_) (λ g9=>?_)<;>refine Ka1 ?_);all_goals (refine Zg ?_;(first|refine aI ?_|(refine aF ?_;refine aN (cV (hc:=λ w1 hw=>aD0 hb2 i w1)) (λ x13=>?_)));refine Kc4 ?_)
 all_goals
 refine bD (λ c15=>?_) (λ c15=>?_)
 ·all_goals refine Iu ?_
  all_goals refine aY results149 (λ w hw=>?_);rw[show Ew n xs ys b i=none from if_neg (by simp_all)];exact⟨rfl,hw.done⟩
 ·try exact nv c15
  all_goals have hcv:CV n xs ys:=h7.1 (by simpa using g9);have hpl:=zn (hcv.bv hb hb2) c15
  all_goals (refine lH ?_;refine eM [(0,[]),(1,[]),(2,[]),(3,[]),(4,[]),(5,[1]),(6,[]),(7,[]),(8,[]),(9,[])] ?_;refine mI ?_;refine mI ?_;refine aT ?_;refine dD (i:=5) (hq:=(cV (hc:=λ w1 hw=>aDm hb2 i w1))) (h:=λ x21=>?_);refine S9 ?_;refine Qe ?_)
  all_goals refine aY results149 (λ w hw=>?_);rw[show Ew n xs ys b i=some (xs.getD (mH b i) 0) from if_pos ⟨hcv,c15⟩];exact⟨rfl,hw.done⟩
theorem oM(i:Int)(hb:n.bm=(b:Int))(hb2:b<18446744073709551616)(hr:sE w n xs ys):Calls prog 216 #[n.v,.int .i64 i] w λ e w'=>e=.returned (.tuple #[.int .i64 ((Ew n xs ys b i).getD 0),.bool (Ew n xs ys b i).isSome])/\St w [] [] w':=by
 have e1:=hr.brN;refine enter func216 ntmps216 rfl rfl (SF.s2 hr.br hr.pr) ?_;simp only[cC]
 simp only[Nd.v,Nd.cells,hb,e1];refine K1k ?_;intro x2;refine J8 ?_;refine aV ?_;refine nG ?_;refine aD (c0 (V:=.bool) (hc:=λ w1 hw=>by rw[<- e1,<- hb];exact ph (n:=n) hb hb2 (hr.fU hw.done))) (λ x7 h7=>?_);refine D5 ?_;(refine eF 9 (λ g9=>?_) (λ g9=>?_)<;>refine Ka1 ?_);all_goals (refine Zg ?_;(first|refine aI ?_|(refine aF ?_;refine aN (cV (hc:=λ w1 hw=>Il hb2 i w1)) (λ x13=>?_)));refine Kc4 ?_)
 all_goals
 refine bD (λ c15=>?_) (λ c15=>?_)
 ·all_goals refine Iu ?_
  all_goals refine aY results216 (λ w hw=>?_);rw[show Ew n xs ys b i=none from if_neg (by simp_all)];exact⟨rfl,hw.done⟩
 ·try exact nv c15
  all_goals have hcv:CV n xs ys:=h7.1 (by simpa using g9);have hpl:=zn (hcv.bv hb hb2) c15
  all_goals (refine lH ?_;refine eM [(0,[]),(1,[]),(2,[]),(3,[]),(4,[]),(5,[1]),(6,[]),(7,[]),(8,[]),(9,[])] ?_;refine mI ?_;refine mI ?_;refine aT ?_;refine dD (i:=5) (hq:=(cV (hc:=λ w1 hw=>Pw hb2 i w1))) (h:=λ x21=>?_);refine S9 ?_;refine Qe ?_)
  all_goals refine aY results216 (λ w hw=>?_);rw[show Ew n xs ys b i=some (xs.getD (mH b i) 0) from if_pos ⟨hcv,c15⟩];exact⟨rfl,hw.done⟩
theorem Lh(hb:n.bm=(b:Int))(hb2:b<18446744073709551616)(hr:sE w n xs ys):Calls prog 245 #[n.v] w λ e w'=>e=.returned (.tuple #[.int .i64 ((po n xs ys).getD 0),.bool (po n xs ys).isSome])/\St w [] [] w':=by
 have e1:=hr.brN;refine enter func245 ntmps245 rfl rfl (SF.s2 hr.br hr.pr) ?_;simp only[cC]
 simp only[Nd.v,Nd.cells,e1];refine J0 ?_;refine bL (λ x1=>?_);refine J8 ?_;refine aV ?_;refine nG ?_;refine aD (c0 (V:=.bool) (hc:=λ w1 hw=>by rw[<- e1];exact ph (n:=n) hb hb2 (hr.fU hw.done))) (λ x5 h5=>?_);refine D5 ?_;(refine eF 7 (λ g7=>?_) (λ g7=>?_)<;>refine Ka1 ?_);all_goals (refine Ka2 ?_;(first|refine aI ?_|(refine aF ?_;refine dW ?_));refine S4 ?_;refine aG ?_)
 all_goals
 refine bD (λ c12=>?_) (λ c12=>?_)
 ·all_goals refine Iu ?_
  all_goals refine aY results245 (λ w hw=>?_);rw[show po n xs ys=none from if_neg (by simp_all;try omega)];exact⟨rfl,hw.done⟩
 ·try exact nv c12
  all_goals have hcv:CV n xs ys:=h5.1 (by simpa using g7);have hl1:xs.length=1:=by omega
  all_goals (refine aW ?_;refine iB ?_;refine aC (dS (k:=0) rf rf gS gB fin (by omega) (by omega)) rfl ?_;refine bO ?_;refine J8 ?_)
  all_goals refine aY results245 (λ w hw=>?_);rw[show po n xs ys=some (xs.getD 0 0) from if_pos ⟨hcv,hl1⟩];exact⟨rfl,hw.done⟩
end
end
section
open Go.RowKit Go.Ct
def cn(b:Nat)(xs:List Int)(x:Option Addr×Nat):Nd:={Nd.zero with kind:=3,bm:=(b:Int),brA:=x.1,brN:=xs.length,brC:=x.2}
theorem fp{b:Nat}{xs:List Int}(h:BV b xs)(x:Option Addr×Nat){p:Int}(hp:0<=p):CV {cn b xs x with prev:=p} xs [] :=⟨rfl,by simp[tG,Nd.own,Nd.jR,Nd.jP,cn],by simp[cn,Nd.zero],hp,by simp[cn,Nd.zero],.inr (.inr (.inl ⟨rfl,by show(xs.length:Int)=xK (b:Int);rw[nX h.lt,h.len],h.pos⟩))⟩
theorem aBk{b:Nat}{xs:List Int}(h:BV b xs)(x:Option Addr×Nat):CV (cn b xs x) xs []:=fp h x (p:=0) (Int.le_refl _)
end
section
open Go.RowKit Go.Ct
abbrev S3:=di 114
abbrev ss(w:World):=M3 w 114
variable{l:List Int}{a:Option Addr}{c:Nat}{w:World}
theorem aCT(v n:Int)(w:World)(hn:IntKind.u64.wrap n≠0):Calls prog 46 #[.int .i64 v,.int .i64 n] w λ e w'=>e=.returned (.int .i64 (bc v n))/\St w [] [] w':=by refine enter func46 ntmps46 rfl rfl (SF.s0 w) ?_;simp only[cC];refine Kb4 ?_;refine gP ?_;refine aA ?_;refine gP ?_;refine aD1 ?_;refine gP ?_;refine J1 ?_;refine aS results46 (λ w hw=>?_);exact⟨rfl,hw.done⟩
theorem zb:Calls prog 21 #[.slice a l.length c] w λ e w' =>
  ∃b:Nat,e=.returned (.pointer (some ⟨b,0,none⟩))/\True/\SF w [] [(b,S3 a l c 0)] [] [] [] w':=by refine enter func21 ntmps21 rfl rfl (SF.s0 w) ?_;simp only[cC];refine Kb4 ?_;refine bN ?_;refine bL (λ x5=>?_);refine J1 ?_;refine aS results21 (λ w hw=>?_);exact⟨x5,rfl,trivial,hw.bA⟩
theorem fN{b k:Nat}(n:Int)(ht:ss w b a l c k)(h0:0<n)(h1:n<=9223372036854775807) :
  Calls prog 22 #[.pointer (some ⟨b,0,none⟩),.int .i64 n] w λ e w' =>
  ∃v:Nat,e=.returned (.int .i64 ((v:Nat):Int))/\((v:Int)<n/\v=tvN l k n)/\SF w [b] ((b,S3 a l c (pF l k))::[]) [] [] [] w':=by
 have hl:=ht.len;have hu:IntKind.u64.wrap n≠0:=by rw[wrap_u64];omega
 refine enter func22 ntmps22 rfl rfl ht.start ?_;simp only[cC];refine Fh ?_;refine aV ?_;refine gO [0,1,2,3,4,5,6,7,8,9] ?_;refine Fm ?_;refine pX ?_;refine zm ?_;refine eS ?_;refine bD (λ c14=>?_) (λ c14=>?_);·refine cX ?_;refine aS results22 (λ w hw=>?_);exact⟨0,rfl,⟨by omega,by simp only[tvN];rw[if_neg (by omega)]⟩,by simp only[pF];rw[if_neg (by omega)];exact hw.bA⟩
 ·refine J83 ?_;refine Ea ?_;refine O0 ?_;refine aV ?_;refine gO [0,1,2,3,4,5,6,7,8,9,10,11,12,13] ?_;refine Fm ?_;refine Ro ?_;refine S9 ?_;refine aT ?_;refine dD (i:=12) (hq:=(cV (hc:=λ w1 hw=>aCT (l.getD (k+1-1) 0) n w1 hu))) (h:=λ x34=>?_);refine J7 ?_;refine aS results22 (λ w hw=>?_);have hb:=Ue (v:=l.getD k 0) h0 h1;exact⟨(bc (l.getD k 0) n).toNat,by rw[Int.toNat_of_nonneg hb.1];rfl,⟨by omega,by simp only[tvN];rw[if_pos (by omega)]⟩,by simp only[pF];rw[if_pos (by omega)];exact hw.bA⟩
def kC:List ByteArray:=[⟨#[97]⟩,⟨#[98]⟩,⟨#[99]⟩,⟨#[100]⟩,⟨#[97,98]⟩,⟨#[]⟩,⟨#[98,48]⟩,⟨#[107,101,121]⟩]
theorem aAb{l:List Int}{a:Option Addr}{b c k:Nat}{w:World}(ht:ss w b a l c k) :
  Calls prog 59 #[.pointer (some ⟨b,0,none⟩)] w λ e w' =>
  ∃v:Nat,e=.returned (.string (kC.getD v ⟨#[]⟩))/\(v<8/\v=tvN l k 8)/\SF w [b] ((b,S3 a l c (pF l k))::[]) [] [] [] w':=by refine enter func59 ntmps59 rfl rfl ht.start ?_;simp only[cC];refine cX ?_;refine J0 ?_;refine fC (λ x3=>?_);refine aA ?_;refine aD (zL (hc:=λ w1 hw=>fN 8 (hw.tape cY fin ht.len) (by decide) (by decide))) (λ x5 h5=>?_);refine aC (dk (lst:=kC) rf rf gS gB fin (by omega) (by simp only[kC,List.length_cons,List.length_nil];omega)) rfl ?_;refine aC (w9 (lst:=kC) rf gB fin (by simp only[kC,List.length_cons,List.length_nil];omega)) rfl ?_;refine J1 ?_;refine aS results59 (λ w hw=>?_);exact⟨x5,rfl,⟨by omega,h5.2⟩,hw.bA⟩
end
end Go.Proofs.YtbajmaoegmbfgaaGreat
namespace Go.Ct
section
end
end Go.Ct
namespace Go.Proofs.YtbajmaoegmbfgaaGreat
open Go.Proofs.Tryz
section
open Go.RowKit Go.Ct
end
section
open Go.RowKit Go.Ct
def tmb(s:Nd):Nd:={Nd.zero with kind:=5,hash:=s.hash,key:=s.key,val:=s.val}
def G5(n:Nd):Nd:=if n.kind=5 then{Nd.zero with kind:=4,hash:=n.hash,key:=n.key,val:=n.val} else Nd.zero
theorem Jz(n:Nd)(w:World):Calls prog 219 #[n.v] w λ e w'=>e=.returned (.tuple #[(G5 n).v,.bool (decide (n.kind=5))])/\St w [] [] w':=by
 refine enter func219 ntmps219 rfl rfl (SF.s0 w) ?_;simp only[cC];simp only[Nd.v,Nd.cells];refine J0 ?_;refine bL (λ x1=>?_);refine aJ (λ x2=>?_);refine jG ?_;refine iB ?_;refine Kc9 ?_;refine bD (λ c6=>?_) (λ c6=>?_);·refine J0 ?_;refine bN ?_;refine Fb ?_;refine aY results219 (λ w hw=>?_);exact⟨by rw[show G5 n=Nd.zero from if_neg (by assumption),decide_eq_false (by assumption)];rfl,hw.done⟩
 ·refine aW ?_;refine iB ?_;refine J3 ?_;refine J3 ?_;refine bN ?_;refine Fb ?_;refine aY results219 (λ w hw=>?_);exact⟨by rw[show G5 n={Nd.zero with kind:=4,hash:=n.hash,key:=n.key,val:=n.val} from if_pos (by omega),decide_eq_true (by omega)];rfl,hw.done⟩
section
variable{n s:Nd}{xs:List Int}{ys:List Pr}{w:World}{b:Nat}
def LV(n:Nd)(xs:List Int)(ys:List Pr):Prop:=n.kind=6/\cJ n xs ys
theorem P4(hb:n.bm=(b:Int))(hb2:b<18446744073709551616)(hr:sE w n xs ys):Calls prog 255 #[n.v] w λ e w'=>∃r:Bool,e=.returned (.bool r)/\(r=true↔LV n xs ys)/\St w [] [] w':=by
 refine enter func255 ntmps255 rfl rfl (SF.s0 w) ?_;simp only[cC];simp only[Nd.v,Nd.cells];refine K1q ?_;intro x1;(refine eF 6 (λ g6=>?_) (λ g6=>?_)<;>refine Ka2 ?_);all_goals ((first|refine aI ?_|(refine aF ?_;refine aD (c0 (V:=.bool) (hc:=λ w1 hw=>zU (n:=n) hb hb2 (hr.fU hw.done))) (λ x8 h8=>?_)));refine Kb8 ?_)
 all_goals
 refine aS results255 (λ w hw=>?_);refine⟨_,rfl,?_,hw.done⟩;simp_all[LV]
open Classical in
noncomputable def Tb (n:Nd) (xs:List Int) (ys:List Pr) (level:Int) (s:Nd):Bool:=decide ((po n xs ys).isSome=true/\0<level/\s.kind=4)
def za(t:Bool)(n s:Nd):Nd:=if t=true then tmb s else n
def sq{α:Type}(t:Bool)(l:List α):List α:=if t=true then [] else l
theorem Ex(level:Int)(s:Nd)(hb:n.bm=(b:Int))(hb2:b<18446744073709551616)(hr:sE w n xs ys):Calls prog 221 #[n.v,.int .i64 level,s.v] w λ e w'=>e=.returned (za (Tb n xs ys level s) n s).v/\St w [] [] w':=by
 refine enter func221 ntmps221 rfl rfl (SF.s0 w) ?_;simp only[cC];simp only[Nd.v,Nd.cells];refine K1g ?_;intro x3;refine bL (λ x5=>?_);refine aJ (λ x6=>?_);refine S8 ?_;refine nG ?_;refine aN (cV (hc:=λ w1 hw=>Lh (n:=n) hb hb2 (hr.fU hw.done))) (λ x11=>?_);refine K0c ?_;refine J8 ?_;refine iZ ?_;(refine eF 15 (λ g15=>?_) (λ g15=>?_)<;>refine Ka0 ?_);all_goals (refine Bf ?_;refine aA ?_)
 all_goals (first|refine aI ?_|(refine eF 19 (λ g19=>?_) (λ g19=>?_)<;>refine Ka1 ?_))
 all_goals (refine J78 ?_;refine aG ?_)
 all_goals
 refine bD (λ c23=>?_) (λ c23=>?_)
 ·try exact nv c23
  all_goals (refine iB ?_;refine J3 ?_;refine J3 ?_;refine xX ?_)
  all_goals refine aY results221 (λ w hw=>?_);rw[show Tb n xs ys level s=true from decide_eq_true ⟨by assumption,by omega,by omega⟩];exact⟨rfl,hw.done⟩
 ·all_goals (refine aW ?_;refine nG ?_;refine J5 ?_)
  all_goals refine aY results221 (λ w hw=>?_);rw[show Tb n xs ys level s=false from decide_eq_false (by rintro ⟨t1,t2,t3⟩;first|omega|(clear hw;simp_all;done))];exact⟨rfl,hw.done⟩
end
end
section
open Go.RowKit Go.Ct
def j8(o:Option (List Pr))(h:Int)(x:Option Addr×Nat):Nd:=match o with|some m=>{Nd.zero with kind:=6,hash:=h,prA:=x.1,prN:=m.length,dI:=x.2}|none=>Nd.zero
def bz(o:Option (List Pr)):List Pr:=o.getD []
def Oy(o:Option (List Pr))(h:Int)(x:Option Addr×Nat):Nd:=match o with|some m=>if m.length=1 then{Nd.zero with kind:=5,hash:=h,key:=(m.getD 0 (⟨#[]⟩,0)).1,val:=(m.getD 0 (⟨#[]⟩,0)).2} else{Nd.zero with kind:=6,hash:=h,prA:=x.1,prN:=m.length,dI:=x.2}|none=>Nd.zero
def Ji(o:Option (List Pr)):List Pr:=match o with|some m=>if m.length=1 then [] else m|none=>[]
open Classical in
noncomputable def lJ (n:Nd) (xs:List Int) (ys:List Pr) (k:ByteArray) (v:Int):Option (List Pr):=if LV n xs ys/\k.size<=64 then some (Pa ys k v) else none
open Classical in
noncomputable def rL (n:Nd) (xs:List Int) (ys:List Pr) (k:ByteArray):Option (List Pr):=if LV n xs ys/\(cK ys k).isSome=true then some (tC ys k) else none
def aCy(w:World)(o:Option (List Pr))(h:Int)(e:Ending)(w':World):Prop:=∃x:Option Addr×Nat,e=.returned (.tuple #[(j8 o h x).v,.bool o.isSome])/\(bz o).length<=x.2/\SF w [] [] [] [(x.1,dI (bz o))] [] w'
def aDY(w:World)(o:Option (List Pr))(h:Int)(e:Ending)(w':World):Prop:=∃x:Option Addr×Nat,e=.returned (.tuple #[(Oy o h x).v,.bool o.isSome])/\(Ji o).length<=x.2/\SF w [] [] [] [(x.1,dI (Ji o))] [] w'
section
variable{n s:Nd}{xs:List Int}{ys:List Pr}{w:World}{b:Nat}
theorem Tc(k:ByteArray)(v:Int)(hb:n.bm=(b:Int))(hb2:b<18446744073709551616)(hr:sE w n xs ys)(hy:ys.length<=150000000000):Calls prog 247 #[n.v,.string k,.int .u64 v] w (aCy w (lJ n xs ys k v) n.hash):=by
 have e2:=hr.prN;refine enter func247 ntmps247 rfl rfl (SF.s1 hr.pr) ?_;simp only[cC]
 simp only[Nd.v,Nd.cells,e2];refine K1g ?_;intro x3;refine aJ (λ x6=>?_);refine jG ?_;refine nG ?_;refine aD (c0 (V:=.bool) (hc:=λ w1 hw=>by rw[<- e2];exact P4 (n:=n) hb hb2 (hr.fU hw.done))) (λ x9 h9=>?_);refine D5 ?_;(refine eF 11 (λ g11=>?_) (λ g11=>?_)<;>refine Ka0 ?_);all_goals ((first|refine aI ?_|(refine aF ?_;refine kT ?_));refine Ka7 ?_)
 all_goals
 refine bD (λ c15=>?_) (λ c15=>?_)
 ·all_goals (refine J0 ?_;refine bN ?_;refine Fb ?_)
  all_goals refine aY results247 (λ w hw=>?_);rw[show lJ n xs ys k v=none from if_neg (by rintro ⟨t1,t2⟩;have:=h9.2 t1;clear hw;first|omega|(simp_all;done))];exact⟨(none,0),rfl,Nat.le_refl _,(hw.Ot none).fin⟩
 ·try exact nv c15
  all_goals (refine lH ?_;refine eM [(0,[]),(1,[]),(2,[]),(3,[]),(4,[]),(5,[]),(6,[1]),(7,[]),(8,[]),(9,[])] ?_;refine mI ?_;refine mI ?_;refine iR ?_;refine bK (i:=6) (hq:=(cF (hc:=λ w1 hw=>n9 (l:=ys) k v (hw.cl fin) (by omega)))) (h:=λ x23 h23=>?_);refine iI ?_;refine Cq ?_)
  all_goals refine aY results247 (λ w hw=>?_);rw[show lJ n xs ys k v=some (Pa ys k v) from if_pos ⟨h9.1 (by clear hw;simp_all),by omega⟩];exact⟨x23,rfl,h23,hw.fin⟩
theorem Ri(k:ByteArray)(hb:n.bm=(b:Int))(hb2:b<18446744073709551616)(hr:sE w n xs ys)(hy:ys.length<=150000000000):Calls prog 251 #[n.v,.string k] w (aDY w (rL n xs ys k) n.hash):=by
 have e2:=hr.prN;refine enter func251 ntmps251 rfl rfl (SF.s1 hr.pr) ?_;simp only[cC]
 simp only[Nd.v,Nd.cells,e2];refine K1k ?_;intro x2;refine aJ (λ x4=>?_);refine jG ?_;refine Kc3 ?_;refine aN (cV (hc:=λ w1 hw=>Lo (l:=ys) k (hw.cl fin) (by omega))) (λ x13=>?_);refine K0c ?_;refine J8 ?_;refine nG ?_;refine aD (c0 (V:=.bool) (hc:=λ w1 hw=>by rw[<- e2];exact P4 (n:=n) hb hb2 (hr.fU hw.done))) (λ x17 h17=>?_);refine D5 ?_;(refine eF 19 (λ g19=>?_) (λ g19=>?_)<;>refine Ka0 ?_);all_goals (refine Kc4 ?_)
 all_goals
 refine bD (λ c22=>?_) (λ c22=>?_)
 ·all_goals (refine J0 ?_;refine bN ?_;refine Fb ?_)
  all_goals refine aY results251 (λ w hw=>?_);rw[show rL n xs ys k=none from if_neg (by rintro ⟨t1,t2⟩;have:=h17.2 t1;clear hw;simp_all)];exact⟨(none,0),rfl,Nat.le_refl _,(hw.Ot none).fin⟩
 ·try exact nv c22
  all_goals (refine aW ?_;refine Kc3 ?_;refine aD (cF (hc:=λ w1 hw=>Yp (l:=ys) k (hw.cl fin) (by omega))) (λ x27 h27=>?_);refine Kc6 ?_;refine dW ?_;refine tH ?_)
  all_goals
   refine bD (λ c30=>?_) (λ c30=>?_)
   ·refine aV ?_;refine gO [0,1,2,3,4,5,6,7,8,9,10,11,12] ?_;refine mI ?_;refine aT ?_;refine bU (i:=3) (hq:=(F8 (k:=0) rf rf gS eE fin (by omega) (by omega))) (h:=?_);refine mI ?_;refine aT ?_;refine bU (i:=7) (hq:=(F8 (k:=0) rf rf gS eE fin (by omega) (by omega))) (h:=?_);refine aX ?_;refine bU (i:=9) (hq:=(Q2 (q:=0) (lst:=tC ys k) rf gB fin (by omega))) (h:=?_);refine iI ?_;refine Cq ?_;refine aY results251 (λ w hw=>?_);have e1:(tC ys k).length=1:=by omega
    rw[show rL n xs ys k=some (tC ys k) from if_pos ⟨h17.1 (by clear hw;simp_all),by clear hw;simp_all⟩];exact⟨(none,0),by simp only[Oy,if_pos e1];rfl,by simp only[Ji,if_pos e1];exact Nat.le_refl _,by simp only[Ji,if_pos e1];exact(hw.Ot none).fin⟩
   ·refine aW ?_;refine Kc3 ?_;refine bN ?_;refine Fb ?_;refine aY results251 (λ w hw=>?_);have e1:¬(tC ys k).length=1:=by omega
    rw[show rL n xs ys k=some (tC ys k) from if_pos ⟨h17.1 (by clear hw;simp_all),by clear hw;simp_all⟩];exact⟨x27,by simp only[Oy,if_neg e1];rfl,by simp only[Ji,if_neg e1];exact h27,by simp only[Ji,if_neg e1];exact hw.fin⟩
end
end
end Go.Proofs.YtbajmaoegmbfgaaGreat
namespace Go.Ct
open Go Go.RowKit
section
section
variable{P:Program}{n:Nat}{S:List (Nat×Value)}
variable{w0 w w':World}{M:List Nat}{H H':List (Nat×Obj)}{A F F':Fr}{O O':List Ow}{G:World->Prop}
variable{d:Nat}{ty:TypeId}{pos:String}{af:Array Edge}{gd:Option (Nat×Bool)}{dst:Option Nat}{x y z:Operand}{t t2 e:TypeId}{p a:Option Addr}{i m k c c2:Nat}
end
end
end Go.Ct
namespace Go.Proofs.YtbajmaoegmbfgaaGreat
section
open Go Go.RowKit Go.Ct
end
section
open Go.RowKit Go.Ct
open Classical in
noncomputable def lu (n:Nd) (xs:List Int) (ys:List Pr) (b:Nat) (i r:Int):Option (Nat×List Int):=if CV n xs ys/\(0<=i/\i<64)/\1<=r/\oL b i=false then some (dX b i,uY xs (mH b i) r) else none
open Classical in
noncomputable def sm (n:Nd) (xs:List Int) (ys:List Pr) (b:Nat) (i r:Int):Option (Nat×List Int):=if CV n xs ys/\1<=r/\oL b i=true then some (b,rT xs (mH b i) r) else none
open Classical in
noncomputable def sr (n:Nd) (xs:List Int) (ys:List Pr) (b:Nat) (i:Int):Option (Nat×List Int):=if CV n xs ys/\oL b i=true then some (wM b i,tD xs (mH b i)) else none
def nD(o:Option (Nat×List Int))(x:Option Addr×Nat):Nd:=match o with|some q=>cn q.1 q.2 x|none=>Nd.zero
def mX(o:Option (Nat×List Int)):List Int:=match o with|some q=>q.2|none=>[]
def Yy(w:World)(o:Option (Nat×List Int))(e:Ending)(w':World):Prop:=∃x:Option Addr×Nat,e=.returned (.tuple #[(nD o x).v,.bool o.isSome])/\(mX o).length<=x.2/\SF w [] [] [] [(x.1,aH (mX o))] [] w'
section
variable{n:Nd}{xs:List Int}{ys:List Pr}{w:World}{b:Nat}
end
end
end Go.Proofs.YtbajmaoegmbfgaaGreat
