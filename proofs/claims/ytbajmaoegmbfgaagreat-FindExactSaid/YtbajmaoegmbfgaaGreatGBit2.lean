/- The functions on bitmaps. -/
import Derived.Test.YtbajmaoegmbfgaaGreatGPa4
import Derived.Test.YtbajmaoegmbfgaaGreatGAr5
import Derived.Test.YtbajmaoegmbfgaaGreatAuto

set_option linter.unusedSimpArgs false
set_option linter.unusedVariables false
namespace Go.Ct
section
open Go Go.RowKit
def nP(n:Nat)(i:Int):Bool:=decide (0<=i)&&(decide (i<64)&&n.testBit i.toNat)
theorem ry(n:Nat){i:Int}(h:i<0):nP n i=false:=by simp[nP];omega
theorem Ub(n:Nat){i:Int}(h:64<=i):nP n i=false:=by simp[nP];omega
theorem zP(n:Nat){i:Int}(h0:0<=i)(h1:i<64):nP n i=n.testBit i.toNat:=by simp[nP,h0,h1]
theorem Tu{n:Nat}(hn:n<18446744073709551616){i:Int}(h0:0<=i)(h1:i<64):(nV .u64 (nW .u64 (n:Int) i) 1==1)=nP n i:=by
 obtain⟨k,rfl⟩:=Int.eq_ofNat_of_zero_le h0
 rw[zP n h0 h1,nN (by omega)]
 have h2:nV .u64 ((n >>> k:Nat):Int) 1=(((n >>> k) &&& 1:Nat):Int):=nT (Nat.lt_of_le_of_lt (Nat.shiftRight_le _ _) hn) (m:=1) (by decide)
 rw[h2]
 simp only[Int.toNat_natCast,Nat.testBit,Nat.and_comm 1]
 rw[Nat.and_one_is_mod]
 rcases Nat.mod_two_eq_zero_or_one (n >>> k) with h|h<;>rw[h]<;>rfl
def lQ(n:Nat)(i:Int):Nat:=fX n (min i.toNat 64)
theorem kj(n:Nat){i:Nat}:∀k,i<=k->fX (n &&& (2^i-1)) k=fX n i:=by
 intro k hk
 obtain⟨d,rfl⟩:=Nat.exists_eq_add_of_le hk
 clear hk
 induction d with
 | zero=>exact Cb λ j hj=>by rw[Nat.testBit_and,Nat.testBit_two_pow_sub_one];simp;intro _;omega
 | succ d ih =>
  rw[<- Nat.add_assoc]
  simp only[fX,ih,Nat.testBit_and,Nat.testBit_two_pow_sub_one]
  simp
theorem sf{n:Nat}(hn:n<18446744073709551616){i:Int}(h0:0<i)(h1:i<64):uQ (nV .u64 (n:Int) (IntKind.u64.wrap (Q8 .u64 1 i-1)))=((lQ n i:Nat):Int):=by
 obtain⟨k,rfl⟩:=Int.eq_ofNat_of_zero_le (Int.le_of_lt h0)
 have hp:=Nat.pow_lt_pow_right (a:=2) (by decide) (show k<64 by omega)
 have hp0:=Nat.two_pow_pos k
 rw[Po (by omega)]
 have e:((2^k:Nat):Int)-1=((2^k-1:Nat):Int):=by omega
 rw[e,lH (by omega),nT hn (by omega),oY (Nat.lt_of_le_of_lt Nat.and_le_left hn),kj n 64 (by omega)]
 unfold lQ
 rw[Int.toNat_natCast,Nat.min_eq_left (by omega)]
def dI(n:Nat)(i:Int):Nat:=if 0<=i/\i<64 then n ||| 2^i.toNat else n
def vV(n:Nat)(i:Int):Nat:=if 0<=i/\i<64 then n ^^^ (n &&& 2^i.toNat) else n
theorem cu{n:Nat}(hn:n<18446744073709551616){i:Int}(h0:0<=i)(h1:i<64):rOr .u64 (n:Int) (Q8 .u64 1 i)=((dI n i:Nat):Int):=by
 obtain⟨k,rfl⟩:=Int.eq_ofNat_of_zero_le h0
 have hp:=Nat.pow_lt_pow_right (a:=2) (by decide) (show k<64 by omega)
 rw[Po (by omega),n8 hn (by omega),dI,if_pos ⟨h0,h1⟩]
 rfl
theorem Ae{n:Nat}(hn:n<18446744073709551616)(i:Int):dI n i<18446744073709551616:=by
 unfold dI
 split
 ·rename_i h
  have hp:=Nat.pow_lt_pow_right (a:=2) (by decide) (show i.toNat<64 by omega)
  exact Nat.or_lt_two_pow (n:=64) hn hp
 ·exact hn
end
end Go.Ct
namespace Go.Proofs.YtbajmaoegmbfgaaGreat
section
open Go.RowKit Go.Ct
theorem Pv{n:Nat}(hn:n<18446744073709551616)(i:Int)(w:World):Calls Tryz.prog 195 #[.int .u64 (n:Int),.int .i64 i] w λ e w'=>e=.returned (.bool (nP n i))/\St w [] [] w':=by
 refine enter Tryz.func195 Tryz.ntmps195 rfl rfl (SF.s0 w) ?_
 simp only[bY]
 refine cQ ?_;refine J2 ?_;refine kR ?_;refine aA ?_
 (refine eM 7 (λ g7=>?_) (λ g7=>?_)<;>(first|refine aJ ?_|(refine aF ?_;refine aA ?_)))
 all_goals (refine r5 ?_;refine aA ?_)
 all_goals (first|refine aJ ?_|(refine eM 11 (λ g11=>?_) (λ g11=>?_)<;>(first|refine aJ ?_|(refine aF ?_;refine aA ?_))))
 all_goals ((first|refine aJ ?_|(refine aF ?_;refine aA ?_));(first|refine aJ ?_|(refine aF ?_;refine gC ?_));(first|refine aJ ?_|(refine aF ?_;refine C6 ?_));(first|refine aJ ?_|(refine aF ?_;refine zT ?_));refine yG ?_;refine J1 ?_)
 all_goals
 refine aT Tryz.results195 (λ w hw=>?_)
 first|(rw[ry n (by omega)];exact⟨rfl,hw.done⟩)|(rw[Ub n (by omega)];exact⟨rfl,hw.done⟩)|(rw[<- Tu hn (by omega) (by omega)];exact⟨rfl,hw.done⟩)
theorem Yh(i:Int)(w:World):Calls Tryz.prog 232 #[.int .i64 i] w λ e w'=>e=.returned (.bool (decide (0<=i/\i<64)))/\St w [] [] w':=by
 refine enter Tryz.func232 Tryz.ntmps232 rfl rfl (SF.s0 w) ?_
 simp only[bY]
 refine cQ ?_;refine J2 ?_;refine kR ?_;refine aA ?_
 (refine eM 5 (λ g5=>?_) (λ g5=>?_)<;>(first|refine aJ ?_|(refine aF ?_;refine aA ?_)))
 all_goals (refine r5 ?_;refine J1 ?_)
 all_goals
 refine aT Tryz.results232 (λ w hw=>?_)
 first|(rw[decide_eq_false (by omega)];exact⟨rfl,hw.done⟩)|(rw[show decide (0<=i/\i<64)=decide (i<64) by simp;omega];exact⟨rfl,hw.done⟩)
theorem aAo{n:Nat}(hn:n<18446744073709551616)(i:Int)(w:World):Calls Tryz.prog 191 #[.int .u64 (n:Int),.int .i64 i] w λ e w'=>e=.returned (.bool (nP n i))/\St w [] [] w':=by
 refine enter Tryz.func191 Tryz.ntmps191 rfl rfl (SF.s0 w) ?_
 simp only[bY]
 refine cQ ?_;refine J2 ?_;refine aQ (cV (hc:=λ w1 hw=>Yh i w1)) (λ x6=>?_);refine aA ?_
 (refine eM 7 (λ g7=>?_) (λ g7=>?_)<;>(first|refine aJ ?_|(refine aF ?_;refine aA ?_)))
 all_goals ((first|refine aJ ?_|(refine aF ?_;refine aA ?_));(first|refine aJ ?_|(refine aF ?_;refine gC ?_));(first|refine aJ ?_|(refine aF ?_;refine C6 ?_));(first|refine aJ ?_|(refine aF ?_;refine zT ?_));refine yG ?_;refine J1 ?_)
 all_goals
 refine aT Tryz.results191 (λ w hw=>?_)
 first|(rw[<- Tu hn (by omega) (by omega)];exact⟨rfl,hw.done⟩)|(rw[show nP n i=false by simp[nP];omega];exact⟨rfl,hw.done⟩)
theorem Pk{n:Nat}(hn:n<18446744073709551616)(i:Int)(w:World):Calls Tryz.prog 207 #[.int .u64 (n:Int),.int .i64 i] w λ e w'=>e=.returned (.int .i64 ((lQ n i:Nat):Int))/\St w [] [] w':=by
 refine enter Tryz.func207 Tryz.ntmps207 rfl rfl (SF.s0 w) ?_
 simp only[bY]
 refine cQ ?_;refine Hz ?_;refine Hr ?_
 refine fG [5,6,7,8,9,10,11,12,13,14,15,16,17,18,19,20] (λ k=>[(5,.int .i64 ((fX n k:Nat):Int)),(6,.int .i64 ((k:Nat):Int))]) (λ k=>k<=64/\(k:Int)<=max i 0) (λ k=>64-k) (0) (⟨by decide,by omega⟩) ?_ (λ k f hx=>?_)
 ·repeat (first|exact bG _|refine bB (by exact rfl) ?_)
 dsimp only[gU,List.map,List.cons_append,List.nil_append]
 have hcl:=Et n k
 refine kK ?_;refine G7 ?_
 (refine eM 9 (λ g9=>?_) (λ g9=>?_)<;>(first|refine aJ ?_|(refine aF ?_;refine aA ?_)))
 all_goals ((first|refine aJ ?_|(refine aF ?_;refine aA ?_));refine r5 ?_;refine aG ?_)
 all_goals
 refine bE (λ c13=>?_) (λ c13=>?_)
 ·try exact nv c13
  all_goals (refine qP ?_;refine iM ?_;refine aQ (cV (hc:=λ w1 hw=>Pv hn (k:Int) w1)) (λ x18=>?_);refine aG ?_)
  all_goals
   refine bE (λ c18=>?_) (λ c18=>?_)
   ·refine yU ?_;refine eU ?_;refine yU ?_
    refine dV (k+1) ?_ ?_ ?_
    ·omega
    ·repeat' (first|exact bG _|refine bB ?_ ?_)
     all_goals (first|exact rfl|(rw[zP n (by omega) (by omega),Int.toNat_natCast] at *;conv=>{lhs;whnf};congr 2;simp only[fX];simp_all;done))
    ·omega
   ·refine nY ?_;refine yU ?_
    refine dV (k+1) ?_ ?_ ?_
    ·omega
    ·repeat' (first|exact bG _|refine bB ?_ ?_)
     all_goals (first|exact rfl|(rw[zP n (by omega) (by omega),Int.toNat_natCast] at *;conv=>{lhs;whnf};congr 2;simp only[fX];simp_all;done))
    ·omega
 ·all_goals (refine bM rfl ?_;refine J2 ?_;refine J1 ?_)
  all_goals
   refine aT Tryz.results207 (λ w hw=>?_)
   have:lQ n i=fX n k:=by unfold lQ;congr 1;omega
   rw[this]
   exact⟨rfl,hw.done⟩
theorem Q6{n:Nat}(hn:n<18446744073709551616)(w:World):Calls Tryz.prog 170 #[.int .u64 (n:Int)] w λ e w'=>e=.returned (.int .i64 ((fX n 64:Nat):Int))/\St w [] [] w':=by
 refine enter Tryz.func170 Tryz.ntmps170 rfl rfl (SF.s0 w) ?_
 simp only[bY]
 refine cQ ?_;refine J2 ?_;refine aQ (cV (hc:=λ w1 hw=>Pk hn 64 w1)) (λ x4=>?_);refine J1 ?_
 refine aT Tryz.results170 (λ w hw=>?_)
 exact⟨rfl,hw.done⟩
theorem Zp{n:Nat}(hn:n<18446744073709551616)(w:World):Calls Tryz.prog 198 #[.int .u64 (n:Int)] w λ e w'=>e=.returned (.int .i64 ((fX n 64:Nat):Int))/\St w [] [] w':=by
 rw[<- oY hn];exact Kj _ w
theorem aA6{n:Nat}(hn:n<18446744073709551616)(i:Int)(w:World):Calls Tryz.prog 192 #[.int .u64 (n:Int),.int .i64 i] w λ e w'=>e=.returned (.int .i64 ((lQ n i:Nat):Int))/\St w [] [] w':=by
 refine enter Tryz.func192 Tryz.ntmps192 rfl rfl (SF.s0 w) ?_
 simp only[bY]
 refine cQ ?_;refine kK ?_;refine uL ?_;refine aG ?_
 refine bE (λ c6=>?_) (λ c6=>?_)
 ·refine cQ ?_
  refine aT Tryz.results192 (λ w hw=>?_)
  (rw[show lQ n i=0 by unfold lQ;rw[show min i.toNat 64=0 by omega];rfl];exact⟨rfl,hw.done⟩)
 ·refine lK ?_;refine J2 ?_;refine kR ?_;refine aG ?_
  refine bE (λ c8=>?_) (λ c8=>?_)
  ·refine J2 ?_;(refine aQ (by exact cV (hc:=λ w1 hw=>Zp hn w1)) (λ x10=>?_));refine J1 ?_
   refine aT Tryz.results192 (λ w hw=>?_)
   (rw[show lQ n i=fX n 64 by unfold lQ;congr 1;omega];exact⟨rfl,hw.done⟩)
  ·refine yH ?_;refine gC ?_;refine tx ?_;refine z7 ?_;refine zT ?_;(refine aQ (by exact cV (hc:=λ w1 hw=>Kj (nV .u64 (n:Int) (IntKind.u64.wrap (Q8 .u64 1 i-1))) w1)) (λ x17=>?_));refine J1 ?_
   refine aT Tryz.results192 (λ w hw=>?_)
   (rw[<- sf hn (by omega) (by omega)];exact⟨rfl,hw.done⟩)
theorem mZ{n:Nat}(hn:n<18446744073709551616)(i:Int)(w:World):Calls Tryz.prog 254 #[.int .u64 (n:Int),.int .i64 i] w λ e w'=>e=.returned (.int .u64 ((dI n i:Nat):Int))/\St w [] [] w':=by
 refine enter Tryz.func254 Tryz.ntmps254 rfl rfl (SF.s0 w) ?_
 simp only[bY]
 refine cQ ?_;refine kK ?_;refine G7 ?_
 (refine eM 7 (λ g7=>?_) (λ g7=>?_)<;>(first|refine aJ ?_|(refine aF ?_;refine aA ?_)))
 all_goals (refine Iz ?_;refine aG ?_)
 all_goals
 refine bE (λ c10=>?_) (λ c10=>?_)
 ·all_goals (refine J2 ?_;refine J1 ?_)
  all_goals
   refine aT Tryz.results254 (λ w hw=>?_)
   (rw[show dI n i=n by unfold dI;rw[if_neg (by omega)]];exact⟨rfl,hw.done⟩)
 ·try exact nv c10
  all_goals (refine yH ?_;refine gC ?_;refine tx ?_;refine aBO ?_;refine J1 ?_)
  all_goals
   refine aT Tryz.results254 (λ w hw=>?_)
   (rw[<- cu hn (by omega) (by omega)];exact⟨rfl,hw.done⟩)
end

/- C-nodes are maps: the plain laws. -/
end Go.Proofs.YtbajmaoegmbfgaaGreat
namespace Go.Ct
section
open Go Go.RowKit
def sY(b:Nat)(xs:List Int)(k:Nat):Option Int:=if b.testBit k=true then some (xs.getD (fX b k) 0) else none
def A2(m:Nat->Option Int):Nat->Nat
 | 0=>0
 | k+1=>if(m k).isSome=true then A2 m k ||| 2^k else A2 m k
def qZ(m:Nat->Option Int):Nat->List Int
 | 0=>[]
 | k+1=>qZ m k++(m k).toList
def Mo(m:Nat->Option Int)(i:Nat)(o:Option Int)(k:Nat):Option Int:=if k=i then o else m k
structure BV(b:Nat)(xs:List Int):Prop where
 lt:b<18446744073709551616
 len:xs.length=fX b 64
 pos:∀i,i<xs.length->1<=xs.getD i 0
theorem T9(m:Nat->Option Int)(j:Nat):∀k,(A2 m k).testBit j=(decide (j<k)&&(m j).isSome)
 | 0=>by simp[A2]
 | k+1=>by
  have ih:=T9 m j k
  simp only[A2]
  by_cases hjk:j=k
  ·subst hjk
   by_cases h:(m j).isSome=true
   ·rw[if_pos h,Nat.testBit_or,Nat.testBit_two_pow];simp[h]
   ·rw[if_neg h,ih];simp at h;simp[h]
  ·have h2:(2^k).testBit j=false:=by rw[Nat.testBit_two_pow];exact decide_eq_false (λ h=>hjk h.symm)
   split
   ·rw[Nat.testBit_or,ih,h2,Bool.or_false]
    congr 1
    exact decide_eq_decide.2 (by omega)
   ·rw[ih]
    congr 1
    exact decide_eq_decide.2 (by omega)
theorem bz(m:Nat->Option Int):∀k,A2 m k<2^k
 | 0=>by simp[A2]
 | k+1=>by
  have ih:=bz m k
  have h2:2^(k+1)=2^k+2^k:=by rw[Nat.pow_succ];omega
  simp only[A2]
  split
  ·refine Nat.or_lt_two_pow (by omega) ?_
   have:=Nat.two_pow_pos k
   omega
  ·omega
theorem Bx{xs:List Int}{i:Nat}(h:i<xs.length):xs.getD i 0∈xs:=by
 rw[kP,List.getElem?_eq_getElem h]
 exact List.getElem_mem h
theorem M3{m m':Nat->Option Int}:∀n,(∀k,k<n->m k=m' k)->A2 m n=A2 m' n/\qZ m n=qZ m' n
 | 0,_=>⟨rfl,rfl⟩
 | n+1,h=>by
  obtain⟨h1,h2⟩:=M3 n λ k hk=>h k (by omega)
  simp only[A2,qZ,h1,h2,h n (by omega),and_self]
theorem vI(b:Nat)(k:Nat):∀d,fX b k<=fX b (k+d)
 | 0=>Nat.le_refl _
 | d+1=>by have:=vI b k d;rw[<- Nat.add_assoc];simp only[fX];omega
theorem oA{b k n:Nat}(h:k<n)(hb:b.testBit k=true):fX b k<fX b n:=by
 obtain⟨d,rfl⟩:=Nat.exists_eq_add_of_le (Nat.succ_le_of_lt h)
 have:=vI b (k+1) d
 simp only[fX,hb,if_true] at this
 exact this
theorem U8{b:Nat}{xs:List Int}(h:xs.length=fX b 64):∀k,k<=64->qZ (sY b xs) k=xs.take (fX b k)
 | 0,_=>by simp[qZ,fX]
 | k+1,hk=>by
  have ih:=U8 h k (by omega)
  simp only[qZ,ih,sY,fX]
  split
  ·rename_i hb
   have:=oA (n:=64) (by omega) hb
   rw[List.take_add_one,Option.toList,kP,List.getElem?_eq_getElem (by omega)]
   rfl
  ·simp
theorem aa{b:Nat}{xs:List Int}(h:BV b xs):A2 (sY b xs) 64=b/\qZ (sY b xs) 64=xs:=by
 refine⟨Nat.eq_of_testBit_eq λ j=>?_,?_⟩
 ·rw[T9]
  by_cases hj:j<64
  ·rw[decide_eq_true hj,Bool.true_and]
   unfold sY
   cases hb:b.testBit j<;>simp
  ·rw[decide_eq_false hj,Bool.false_and]
   exact(Nat.testBit_lt_two_pow (Nat.lt_of_lt_of_le h.lt (Nat.pow_le_pow_right (n:=2) (by decide) (show 64<=j by omega)))).symm
 ·rw[U8 h.len 64 (Nat.le_refl _),<- h.len,List.take_length]
theorem zL{b b' i:Nat}(h:b.testBit i=false)(hb:∀j,j<64->b'.testBit j=(b.testBit j||decide (j=i))):∀k,k<=64->fX b' k=fX b k+if i<k then 1 else 0
 | 0,_=>rfl
 | k+1,hk=>by
  have ih:=zL h hb k (by omega)
  simp only[fX,ih,hb k (by omega)]
  by_cases hki:k=i
  ·subst hki
   simp[h]
  ·have:decide (k=i)=false:=decide_eq_false hki
   rw[this,Bool.or_false]
   have e:(i<k+1)↔(i<k):=by omega
   simp only[e]
   omega
def tR(xs:List Int)(p:Nat)(r:Int):List Int:=xs.take p++r::xs.drop p
def yL(xs:List Int)(p:Nat)(r:Int):List Int:=xs.take p++r::xs.drop (p+1)
def rQ(xs:List Int)(p:Nat):List Int:=xs.take p++xs.drop (p+1)
theorem E7{xs:List Int}{p:Nat}(hp:p<=xs.length)(r:Int):(tR xs p r).length=xs.length+1:=by
 simp[tR];omega
theorem vG{xs:List Int}{p:Nat}(hp:p<xs.length)(r:Int):(yL xs p r).length=xs.length:=by
 simp[yL];omega
theorem Fl{xs:List Int}{p:Nat}(hp:p<xs.length):(rQ xs p).length+1=xs.length:=by
 simp[rQ];omega
theorem Vq{xs:List Int}{p:Nat}(hp:p<=xs.length)(r:Int)(q:Nat):(tR xs p r).getD q 0=if q<p then xs.getD q 0 else if q=p then r else xs.getD (q-1) 0:=by
 simp only[tR,kP]
 by_cases h1:q<p
 ·rw[if_pos h1,List.getElem?_append_left (by simp;omega),List.getElem?_take_of_lt h1]
 ·rw[if_neg h1,List.getElem?_append_right (by simp;omega)]
  have:(xs.take p).length=p:=by simp;omega
  rw[this]
  by_cases h2:q=p
  ·subst h2;simp
  ·obtain⟨d,hd⟩:∃d,q-p=d+1:=⟨q-p-1,by omega⟩
   rw[if_neg h2,hd,List.getElem?_cons_succ,List.getElem?_drop]
   congr 2
   omega
theorem Km{xs:List Int}{p:Nat}(hp:p<xs.length)(r:Int)(q:Nat):(yL xs p r).getD q 0=if q=p then r else xs.getD q 0:=by
 simp only[yL,kP]
 by_cases h1:q<p
 ·rw[if_neg (by omega),List.getElem?_append_left (by simp;omega),List.getElem?_take_of_lt h1]
 ·rw[List.getElem?_append_right (by simp;omega)]
  have:(xs.take p).length=p:=by simp;omega
  rw[this]
  by_cases h2:q=p
  ·subst h2;simp
  ·obtain⟨d,hd⟩:∃d,q-p=d+1:=⟨q-p-1,by omega⟩
   rw[if_neg h2,hd,List.getElem?_cons_succ,List.getElem?_drop]
   congr 2
   omega
theorem Un{xs:List Int}{p:Nat}(hp:p<xs.length)(q:Nat):(rQ xs p).getD q 0=if q<p then xs.getD q 0 else xs.getD (q+1) 0:=by
 simp only[rQ,kP]
 by_cases h1:q<p
 ·rw[if_pos h1,List.getElem?_append_left (by simp;omega),List.getElem?_take_of_lt h1]
 ·rw[if_neg h1,List.getElem?_append_right (by simp;omega)]
  have:(xs.take p).length=p:=by simp;omega
  rw[this,List.getElem?_drop]
  congr 2
  omega
theorem A8{xs ys:List Int}(h:∀i,i<xs.length->1<=xs.getD i 0)(hy:∀j,j<ys.length->1<=ys.getD j 0∨∃i,i<xs.length/\ys.getD j 0=xs.getD i 0):∀j,j<ys.length->1<=ys.getD j 0:=λ j hj=>by
 rcases hy j hj with h1|⟨i,hi,he⟩
 ·exact h1
 ·rw[he];exact h i hi
section
variable{b i:Nat}{xs:List Int}{r:Int}
theorem As(b i:Nat)(j:Nat):(b ||| 2^i).testBit j=(b.testBit j||decide (j=i)):=by
 rw[Nat.testBit_or,Nat.testBit_two_pow]
 congr 1
 exact decide_eq_decide.2 eq_comm
theorem uR(b i:Nat)(j:Nat):(b ^^^ (b &&& 2^i)).testBit j=(b.testBit j&&!decide (j=i)):=by
 rw[Nat.testBit_xor,Nat.testBit_and,Nat.testBit_two_pow]
 have:decide (i=j)=decide (j=i):=decide_eq_decide.2 eq_comm
 rw[this]
 cases b.testBit j<;>cases decide (j=i)<;>rfl
theorem Gi(h:BV b xs)(hi:i<64)(hb:b.testBit i=false)(hr:1<=r):BV (b ||| 2^i) (tR xs (fX b i) r)/\∀k,k<64->sY (b ||| 2^i) (tR xs (fX b i) r) k=Mo (sY b xs) i (some r) k:=by
 have hc:=zL hb (λ j _=>As b i j)
 have hp:fX b i<=xs.length:=by
  obtain⟨d,hd⟩:=Nat.exists_eq_add_of_le (Nat.le_of_lt hi)
  rw[h.len,hd]
  exact vI b i d
 refine⟨⟨Nat.or_lt_two_pow (n:=64) h.lt (Nat.pow_lt_pow_right (a:=2) (by decide) hi),?_,A8 h.pos λ j hj=>?_⟩,λ k hk=>?_⟩
 ·rw[E7 hp,hc 64 (Nat.le_refl _),if_pos hi,h.len]
 ·rw[E7 hp] at hj
  rw[Vq hp]
  by_cases h1:j<fX b i
  ·rw[if_pos h1];exact .inr ⟨j,by omega,rfl⟩
  ·rw[if_neg h1]
   by_cases h2:j=fX b i
   ·rw[if_pos h2];exact .inl hr
   ·rw[if_neg h2];exact .inr ⟨j-1,by omega,rfl⟩
 ·simp only[sY,Mo]
  rw[As,hc k (by omega),Vq hp]
  by_cases hki:k=i
  ·subst hki;simp
  ·rw[if_neg hki,decide_eq_false hki,Bool.or_false]
   by_cases hbk:b.testBit k=true
   ·rw[if_pos hbk,if_pos hbk]
    congr 1
    by_cases hlt:k<i
    ·have:=oA hlt hbk
     rw[if_neg (show ¬i<k by omega),if_pos (by omega)]
     rfl
    ·have:fX b i<=fX b k:=by
      obtain⟨d,hd⟩:=Nat.exists_eq_add_of_le (show i<=k by omega)
      rw[hd];exact vI b i d
     rw[if_pos (show i<k by omega),if_neg (by omega),if_neg (by omega)]
     rfl
   ·rw[if_neg hbk,if_neg hbk]
theorem Qn(h:BV b xs)(hi:i<64)(hb:b.testBit i=true)(hr:1<=r):BV b (yL xs (fX b i) r)/\∀k,k<64->sY b (yL xs (fX b i) r) k=Mo (sY b xs) i (some r) k:=by
 have hp:fX b i<xs.length:=by rw[h.len];exact oA hi hb
 refine⟨⟨h.lt,by rw[vG hp,h.len],A8 h.pos λ j hj=>?_⟩,λ k hk=>?_⟩
 ·rw[vG hp] at hj
  rw[Km hp]
  by_cases h2:j=fX b i
  ·rw[if_pos h2];exact .inl hr
  ·rw[if_neg h2];exact .inr ⟨j,hj,rfl⟩
 ·simp only[sY,Mo]
  rw[Km hp]
  by_cases hki:k=i
  ·subst hki;rw[if_pos hb,if_pos rfl,if_pos rfl]
  ·rw[if_neg hki]
   by_cases hbk:b.testBit k=true
   ·rw[if_pos hbk,if_pos hbk,if_neg]
    rcases Nat.lt_or_gt_of_ne hki with hlt|hlt
    ·have:=oA hlt hbk;omega
    ·have:=oA hlt hb;omega
   ·rw[if_neg hbk,if_neg hbk]
theorem Rh(h:BV b xs)(hi:i<64)(hb:b.testBit i=true):BV (b ^^^ (b &&& 2^i)) (rQ xs (fX b i))/\∀k,k<64->sY (b ^^^ (b &&& 2^i)) (rQ xs (fX b i)) k=Mo (sY b xs) i none k:=by
 have hp:fX b i<xs.length:=by rw[h.len];exact oA hi hb
 have hb':(b ^^^ (b &&& 2^i)).testBit i=false:=by rw[uR];simp
 have hc:=zL (b':=b) hb' (λ j _=>by
  rw[uR]
  by_cases hji:j=i
  ·subst hji;simp[hb]
  ·rw[decide_eq_false hji];simp)
 refine⟨⟨Nat.xor_lt_two_pow (n:=64) h.lt (Nat.lt_of_le_of_lt Nat.and_le_left h.lt),?_,A8 h.pos λ j hj=>?_⟩,λ k hk=>?_⟩
 ·have:=Fl hp
  have:=hc 64 (Nat.le_refl _)
  rw[if_pos hi] at this
  have:=h.len
  omega
 ·have:=Fl hp
  rw[Un hp]
  by_cases h1:j<fX b i
  ·rw[if_pos h1];exact .inr ⟨j,by omega,rfl⟩
  ·rw[if_neg h1];exact .inr ⟨j+1,by omega,rfl⟩
 ·simp only[sY,Mo]
  have hck:=hc k (by omega)
  rw[uR,Un hp]
  by_cases hki:k=i
  ·subst hki;simp
  ·rw[if_neg hki,decide_eq_false hki,Bool.not_false,Bool.and_true]
   by_cases hbk:b.testBit k=true
   ·rw[if_pos hbk,if_pos hbk]
    congr 1
    by_cases hlt:k<i
    ·have:=oA hlt hbk
     rw[if_neg (show ¬i<k by omega)] at hck
     rw[if_pos (by omega),hck]
     rfl
    ·have:=oA (show i<k by omega) hb
     rw[if_pos (show i<k by omega)] at hck
     rw[if_neg (by omega),hck]
   ·rw[if_neg hbk,if_neg hbk]
end
end

/- What is known of a list, in short. -/
section
open Go Go.RowKit
variable{w0 w:World}{M:List Nat}{H:List (Nat×Obj)}{A F:Fr}{O:List Ow}
end
end Go.Ct
namespace Go.Proofs.YtbajmaoegmbfgaaGreat
section
open Go.RowKit Go.Ct
theorem yX{n:Nd}{xs:List Int}{ys:List Pr}(h:n.kind=3)(hv:cD n xs ys):(xs.length:Int)=uQ n.bm/\Pos xs:=by
 obtain⟨_,_,_,_,hv⟩:=hv
 rcases hv with h1|⟨h1,_⟩|⟨_,h2,h3⟩|⟨h1|h1,_⟩|⟨h1,_⟩|⟨h1,_⟩|⟨h1,_⟩
 all_goals first|exact⟨h2,h3⟩|(rw[h] at h1;exact absurd h1 (by decide))
end

/- The reference's Valid. -/
section
open Go.RowKit Go.Ct
theorem xb (n : Nd) (h1 : 1 ≤ n.kind) (h8 : n.kind ≤ 8) (w : World) : Calls Tryz.prog 169 #[n.v] w fun e w' => e = .returned n.own.v ∧ St w [] [] w' := by
  refine enter Tryz.func169 Tryz.ntmps169 rfl rfl (SF.s0 w) ?_
  simp only [bY]
  refine J0 ?_; refine bN (fun x1 => ?_); refine aI (fun x2 => ?_); refine aG ?_; refine Ci ?_; refine aG ?_; refine cO ?_; refine lA ?_
  refine bE (fun c5 => ?_) (fun c5 => ?_)
  · refine hJ ?_; refine xJ ?_
    refine bC Tryz.results169 (fun w hw => ?_)
    (exact ⟨by simp only [Nd.own, beq_iff_eq, *, if_true, if_false]; rfl, hw.done⟩)
  · refine lA ?_
    refine bE (fun c10 => ?_) (fun c10 => ?_)
    · refine hJ ?_; refine J3 ?_; refine J3 ?_; refine xJ ?_
      refine bC Tryz.results169 (fun w hw => ?_)
      (exact ⟨by simp only [Nd.own, beq_iff_eq, *, if_true, if_false]; rfl, hw.done⟩)
    · refine lA ?_
      refine bE (fun c19 => ?_) (fun c19 => ?_)
      · refine hJ ?_; refine J3 ?_; refine J3 ?_; refine J3 ?_; refine xJ ?_
        refine bC Tryz.results169 (fun w hw => ?_)
        (exact ⟨by simp only [Nd.own, beq_iff_eq, *, if_true, if_false]; rfl, hw.done⟩)
      · refine lA ?_
        refine bE (fun c30 => ?_) (fun c30 => ?_)
        · refine hJ ?_; refine J3 ?_; refine J3 ?_; refine J3 ?_; refine xJ ?_
          refine bC Tryz.results169 (fun w hw => ?_)
          (exact ⟨by simp only [Nd.own, beq_iff_eq, *, if_true, if_false]; rfl, hw.done⟩)
        · refine lA ?_
          refine bE (fun c41 => ?_) (fun c41 => ?_)
          · refine hJ ?_; refine J3 ?_; refine J3 ?_; refine J3 ?_; refine J3 ?_; refine xJ ?_
            refine bC Tryz.results169 (fun w hw => ?_)
            (exact ⟨by simp only [Nd.own, beq_iff_eq, *, if_true, if_false]; rfl, hw.done⟩)
          · refine lA ?_
            refine bE (fun c54 => ?_) (fun c54 => ?_)
            · refine hJ ?_; refine J3 ?_; refine J3 ?_; refine J3 ?_; refine xJ ?_
              refine bC Tryz.results169 (fun w hw => ?_)
              (exact ⟨by simp only [Nd.own, beq_iff_eq, *, if_true, if_false]; rfl, hw.done⟩)
            · refine lA ?_
              refine bE (fun c65 => ?_) (fun c65 => ?_)
              · refine hJ ?_; refine J3 ?_; refine xJ ?_
                refine bC Tryz.results169 (fun w hw => ?_)
                (exact ⟨by simp only [Nd.own, beq_iff_eq, *, if_true, if_false]; rfl, hw.done⟩)
              · refine lA ?_
                refine bE (fun c72 => ?_) (fun c72 => ?_)
                · refine hJ ?_; refine J3 ?_; refine J3 ?_; refine J3 ?_; refine J3 ?_; refine xJ ?_
                  refine bC Tryz.results169 (fun w hw => ?_)
                  (exact ⟨by simp only [Nd.own, beq_iff_eq, *, if_true, if_false]; rfl, hw.done⟩)
                · refine nY ?_; refine J0 ?_; refine xJ ?_
                  refine bC Tryz.results169 (fun w hw => ?_)
                  (exfalso; omega)
theorem bu{n:Nd}{xs:List Int}{ys:List Pr}(h:n.kind=3){k:Nat}(hk:k<xs.length)(hx:xs.getD k 0<1):false=true↔cD n xs ys:=by
 simp only[Bool.false_eq_true,false_iff]
 intro hv
 have:=(yX h hv).2 k hk
 omega
theorem qo{n:Nd}{xs:List Int}{ys:List Pr}{c:Int}(h:n.kind=3)(he:rM n n.own xs (n.jQ xs) ys (n.iZ ys))(h1:0<=n.main)(h2:0<=n.prev)(h3:0<=n.status)(eo:uQ n.bm=c)(hp:Pos xs):((xs.length:Int)==c)=true↔cD n xs ys:=by
 rw[beq_iff_eq,<- eo]
 exact⟨λ hl=>⟨he,h1,h2,h3,.inr (.inr (.inl ⟨h,hl,hp⟩))⟩,λ hv=>(yX h hv).1⟩
theorem Gy{n:Nd}{xs:List Int}{ys:List Pr}{w:World}{b:Nat}(hb:n.bm=(b:Int))(hb2:b<18446744073709551616)(hr:qI w n xs ys) :
  Calls Tryz.prog 126 #[n.v] w λ e w'=>∃r:Bool,e=.returned (.bool r)/\(r=true↔cD n xs ys)/\St w [] [] w':=by
 have e1:=hr.brN;have e2:=hr.prN
 obtain⟨kind,gen,main,bm,brA,brN,brC,hash,key,val,prA,prN,prK,prev,bO,exp,new,status⟩:=n
 simp only at e1 e2 hb
 subst e1 e2 hb
 have eo:uQ (b:Int)=((fX b 64:Nat):Int):=oY hb2
 have hxl:=hr.brS
 refine enter Tryz.func126 Tryz.ntmps126 rfl rfl (SF.s2 hr.br hr.pr) ?_
 simp only[bY]
 simp only[Nd.v,Nd.cells]
 refine J0 ?_;refine bN (λ x1=>?_);refine iT ?_;refine aV ?_;refine dZ [(0,[]),(1,[]),(2,[]),(3,[]),(4,[]),(5,[]),(6,[]),(7,[]),(8,[]),(9,[]),(10,[]),(11,[9]),(12,[]),(13,[]),(14,[]),(15,[]),(16,[]),(17,[]),(18,[]),(19,[]),(20,[]),(21,[]),(22,[]),(23,[]),(24,[]),(25,[]),(26,[]),(27,[]),(28,[]),(29,[])] ?_;refine mL ?_;refine Ay ?_;refine aN ?_
 (refine Yq 7 (λ g7=>?_) (λ g7=>?_)<;>(first|refine dD ?_|(refine aR ?_)))
 all_goals ((first|refine dD ?_|(refine bP ?_));(first|refine dD ?_|(refine aAb ?_));refine eO ?_;refine aN ?_)
 all_goals (first|refine dD ?_|(refine Yq 12 (λ g12=>?_) (λ g12=>?_)<;>(first|refine dD ?_|(refine bP ?_))))
 all_goals ((first|refine dD ?_|(refine bP ?_));(first|refine dD ?_|(refine cL (i:=11) (hq:=(cV (hc:=λ w1 hw=>xb (⟨kind,gen,main,(b:Int),brA,xs.length,brC,hash,key,val,prA,ys.length,prK,prev,bO,exp,new,status⟩:Nd) (show(1:Int)<=kind by omega) (show kind<=8 by omega) w1))) (h:=λ x15=>?_)));(first|refine dD ?_|(refine bD (i:=12) (hq:=(c0 (V:=.bool) (hc:=λ w1 hw=>V7 (a:=(⟨kind,gen,main,(b:Int),brA,xs.length,brC,hash,key,val,prA,ys.length,prK,prev,bO,exp,new,status⟩:Nd)) (b:=((⟨kind,gen,main,(b:Int),brA,xs.length,brC,hash,key,val,prA,ys.length,prK,prev,bO,exp,new,status⟩:Nd)).own) (hr.fI hw.done) (hr.fI hw.done).own))) (h:=λ x16 h16=>?_)));(first|refine dD ?_|(refine Gp ?_));refine eO ?_;refine aN ?_)
 all_goals (first|refine dD ?_|(refine Yq 19 (λ g19=>?_) (λ g19=>?_)<;>(first|refine dD ?_|(refine aR ?_))))
 all_goals ((first|refine dD ?_|(refine bP ?_));(first|refine dD ?_|(refine Ay ?_));refine eO ?_;refine aN ?_)
 all_goals (first|refine dD ?_|(refine Yq 24 (λ g24=>?_) (λ g24=>?_)<;>(first|refine dD ?_|(refine aR ?_))))
 all_goals ((first|refine dD ?_|(refine bP ?_));(first|refine dD ?_|(refine Ay ?_));refine eO ?_;refine aN ?_)
 all_goals (first|refine dD ?_|(refine Yq 29 (λ g29=>?_) (λ g29=>?_)<;>(first|refine dD ?_|(refine aR ?_))))
 all_goals ((first|refine dD ?_|(refine bP ?_));(first|refine dD ?_|(refine Ay ?_));refine eO ?_;refine eA ?_)
 all_goals
 refine bE (λ c33=>?_) (λ c33=>?_)
 ·all_goals refine cQ ?_
  all_goals
   refine aT Tryz.results126 (λ w hw=>?_)
   refine⟨_,rfl,?_,hw.done⟩
   first|(simp_all[cD];done)|(simp_all[cD];omega)
 ·try exact nv c33
  all_goals (refine lK ?_;refine hJ ?_;refine aG ?_;refine cO ?_;refine lA ?_)
  all_goals
   refine bE (λ c36=>?_) (λ c36=>?_)
   ·refine hJ ?_;refine kR ?_;refine J1 ?_
    refine aT Tryz.results126 (λ w hw=>?_)
    refine⟨_,rfl,?_,hw.done⟩
    (simp_all[cD];done)
   ·refine lA ?_
    refine bE (λ c41=>?_) (λ c41=>?_)
    ·refine aV ?_;refine Hr ?_
     refine fG [2,3,43,44,45,46,47,48,49,50,51,52,53,54,55] (λ k=>[(3,.int .i64 ((k:Nat):Int))]) (λ k=>k<=xs.length/\∀i,i<k->1<=xs.getD i 0) (λ k=>xs.length-k) (0) (⟨Nat.zero_le _,λ i hi=>absurd hi (Nat.not_lt_zero i)⟩) ?_ (λ k f hx=>?_)
     ·repeat (first|exact bG _|refine bB (by exact rfl) ?_)
     dsimp only[gU,List.map,List.cons_append,List.nil_append]
     refine kK ?_;refine My ?_;refine xD ?_
     refine bE (λ c47=>?_) (λ c47=>?_)
     ·refine qP ?_;refine hJ ?_;refine aA ?_;refine Yd ?_;refine xD ?_
      refine bE (λ c55=>?_) (λ c55=>?_)
      ·refine cQ ?_
       refine aT Tryz.results126 (λ w hw=>?_)
       refine⟨_,rfl,?_,hw.done⟩
       exact bu c41 (k:=k) (by omega) (by assumption)
      ·refine nY ?_;refine yU ?_
       refine dV (k+1) ?_ ?_ ?_
       ·omega
       ·repeat' (first|exact bG _|refine bB ?_ ?_)
        exact rfl
       ·exact⟨by omega,λ i hi=>by rcases Nat.lt_succ_iff_lt_or_eq.1 hi with h|rfl;exact hx.2 i h;omega⟩
     ·refine bM rfl ?_;refine aV ?_;refine dZ [(0,[]),(1,[]),(2,[]),(3,[]),(4,[]),(5,[1]),(6,[]),(7,[])] ?_;refine mL ?_;refine pE ?_;refine mL ?_;refine cL (i:=5) (hq:=(cV (hc:=λ w1 hw=>Q6 hb2 w1))) (h:=λ x61=>?_);refine mD ?_;refine J7 ?_
      refine aT Tryz.results126 (λ w hw=>?_)
      refine⟨_,rfl,?_,hw.done⟩
      exact qo c41 (h16.1 (by simpa using g19)) (show 0<=main by omega) (show 0<=prev by omega) (show 0<=status by omega) eo (λ i hi=>hx.2 i (by omega))
    ·refine aV ?_;refine lA ?_
     refine bE (λ c63=>?_) (λ c63=>?_)
     ·refine aZ ?_
      refine bE (λ c63=>?_) (λ c63=>?_)
      ·refine hJ ?_;refine jW ?_;refine uL ?_;refine J1 ?_
       refine aT Tryz.results126 (λ w hw=>?_)
       refine⟨_,rfl,?_,hw.done⟩
       (simp_all[cD];omega)
      ·refine lA ?_
       refine bE (λ c70=>?_) (λ c70=>?_)
       ·refine hJ ?_;refine dG ?_;refine kR ?_;refine aA ?_
        (refine eM 76 (λ g76=>?_) (λ g76=>?_)<;>(first|refine aJ ?_|(refine aF ?_;refine aE ?_)))
        all_goals ((first|refine aJ ?_|(refine aF ?_;refine bR ?_));(first|refine aJ ?_|(refine aF ?_;refine aC (c0 (V:=.bool) (hc:=λ w1 hw=>lU (hw.cl fin) hr.prS)) (λ x79 h79=>?_)));refine cH ?_;refine aA ?_)
        all_goals (first|refine aJ ?_|(refine eM 81 (λ g81=>?_) (λ g81=>?_)<;>(first|refine aJ ?_|(refine aF ?_;refine aE ?_))))
        all_goals ((first|refine aJ ?_|(refine aF ?_;refine bR ?_));(first|refine aJ ?_|(refine aF ?_;refine aC (c0 (V:=.bool) (hc:=λ w1 hw=>b9 (hw.cl fin) hr.prS)) (λ x84 h84=>?_)));refine cH ?_;refine J1 ?_)
        all_goals
        refine aT Tryz.results126 (λ w hw=>?_)
        refine⟨_,rfl,?_,hw.done⟩
        (simp_all[cD];done)
       ·refine lA ?_
        refine bE (λ c86=>?_) (λ c86=>?_)
        ·refine hJ ?_;refine kR ?_;refine J1 ?_
         refine aT Tryz.results126 (λ w hw=>?_)
         refine⟨_,rfl,?_,hw.done⟩
         (simp_all[cD];done)
        ·refine lA ?_
         refine bE (λ c91=>?_) (λ c91=>?_)
         ·refine hJ ?_;refine kR ?_;refine aA ?_
          (refine eM 96 (λ g96=>?_) (λ g96=>?_)<;>(first|refine aJ ?_|(refine aF ?_;refine aE ?_)))
          all_goals (refine J86 ?_;refine cH ?_;refine aA ?_)
          all_goals (first|refine aJ ?_|(refine eM 101 (λ g101=>?_) (λ g101=>?_)<;>(first|refine aJ ?_|(refine aF ?_;refine aE ?_))))
          all_goals (refine J86 ?_;refine cH ?_;refine J1 ?_)
          all_goals
          refine aT Tryz.results126 (λ w hw=>?_)
          refine⟨_,rfl,?_,hw.done⟩
          (simp_all[cD];done)
         ·refine nY ?_;refine cQ ?_
          refine aT Tryz.results126 (λ w hw=>?_)
          refine⟨_,rfl,?_,hw.done⟩
          (simp_all[cD];done)
     ·refine dW ?_;refine Td ?_
      refine bE (λ c63=>?_) (λ c63=>?_)
      ·refine hJ ?_;refine jW ?_;refine uL ?_;refine J1 ?_
       refine aT Tryz.results126 (λ w hw=>?_)
       refine⟨_,rfl,?_,hw.done⟩
       (simp_all[cD];omega)
      ·refine lA ?_
       refine bE (λ c70=>?_) (λ c70=>?_)
       ·refine hJ ?_;refine dG ?_;refine kR ?_;refine aA ?_
        (refine eM 76 (λ g76=>?_) (λ g76=>?_)<;>(first|refine aJ ?_|(refine aF ?_;refine aE ?_)))
        all_goals ((first|refine aJ ?_|(refine aF ?_;refine bR ?_));(first|refine aJ ?_|(refine aF ?_;refine aC (c0 (V:=.bool) (hc:=λ w1 hw=>lU (hw.cl fin) hr.prS)) (λ x79 h79=>?_)));refine cH ?_;refine aA ?_)
        all_goals (first|refine aJ ?_|(refine eM 81 (λ g81=>?_) (λ g81=>?_)<;>(first|refine aJ ?_|(refine aF ?_;refine aE ?_))))
        all_goals ((first|refine aJ ?_|(refine aF ?_;refine bR ?_));(first|refine aJ ?_|(refine aF ?_;refine aC (c0 (V:=.bool) (hc:=λ w1 hw=>b9 (hw.cl fin) hr.prS)) (λ x84 h84=>?_)));refine cH ?_;refine J1 ?_)
        all_goals
        refine aT Tryz.results126 (λ w hw=>?_)
        refine⟨_,rfl,?_,hw.done⟩
        first|(simp_all[cD];done)|(simp_all[cD];omega)
       ·refine lA ?_
        refine bE (λ c86=>?_) (λ c86=>?_)
        ·refine hJ ?_;refine kR ?_;refine J1 ?_
         refine aT Tryz.results126 (λ w hw=>?_)
         refine⟨_,rfl,?_,hw.done⟩
         (simp_all[cD];done)
        ·refine lA ?_
         refine bE (λ c91=>?_) (λ c91=>?_)
         ·refine hJ ?_;refine kR ?_;refine aA ?_
          (refine eM 96 (λ g96=>?_) (λ g96=>?_)<;>(first|refine aJ ?_|(refine aF ?_;refine aE ?_)))
          all_goals (refine J86 ?_;refine cH ?_;refine aA ?_)
          all_goals (first|refine aJ ?_|(refine eM 101 (λ g101=>?_) (λ g101=>?_)<;>(first|refine aJ ?_|(refine aF ?_;refine aE ?_))))
          all_goals (refine J86 ?_;refine cH ?_;refine J1 ?_)
          all_goals
          refine aT Tryz.results126 (λ w hw=>?_)
          refine⟨_,rfl,?_,hw.done⟩
          first|(simp_all[cD];done)|(simp_all[cD];omega)
         ·refine nY ?_;refine cQ ?_
          refine aT Tryz.results126 (λ w hw=>?_)
          refine⟨_,rfl,?_,hw.done⟩
          (simp_all[cD];omega)
end

end Go.Proofs.YtbajmaoegmbfgaaGreat
