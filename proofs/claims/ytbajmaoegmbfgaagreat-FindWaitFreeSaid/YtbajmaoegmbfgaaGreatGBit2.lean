/- The functions on bitmaps. -/
import Derived.Test.YtbajmaoegmbfgaaGreatGPa4
import Derived.Test.YtbajmaoegmbfgaaGreatGAr5
import Derived.Test.YtbajmaoegmbfgaaGreatAuto

set_option linter.unusedSimpArgs false
set_option linter.unusedVariables false
namespace Go.Ct
section
open Go Go.RowKit
def nY(n:Nat)(i:Int):Bool:=decide (0<=i)&&(decide (i<64)&&n.testBit i.toNat)
theorem ql(n:Nat){i:Int}(h:i<0):nY n i=false:=by simp[nY];omega
theorem Ut(n:Nat){i:Int}(h:64<=i):nY n i=false:=by simp[nY];omega
theorem A8(n:Nat){i:Int}(h0:0<=i)(h1:i<64):nY n i=n.testBit i.toNat:=by simp[nY,h0,h1]
theorem Wm{n:Nat}(hn:n<18446744073709551616){i:Int}(h0:0<=i)(h1:i<64):(oI .u64 (oH .u64 (n:Int) i) 1==1)=nY n i:=by
 obtain⟨k,rfl⟩:=Int.eq_ofNat_of_zero_le h0
 rw[A8 n h0 h1,nV (by omega)]
 have h2:oI .u64 ((n >>> k:Nat):Int) 1=(((n >>> k) &&& 1:Nat):Int):=nS (Nat.lt_of_le_of_lt (Nat.shiftRight_le _ _) hn) (m:=1) (by decide)
 rw[h2]
 simp only[Int.toNat_natCast,Nat.testBit,Nat.and_comm 1]
 rw[Nat.and_one_is_mod]
 rcases Nat.mod_two_eq_zero_or_one (n >>> k) with h|h<;>rw[h]<;>rfl
def lS(n:Nat)(i:Int):Nat:=fZ n (min i.toNat 64)
theorem dr(n:Nat){i:Nat}:∀k,i<=k->fZ (n &&& (2^i-1)) k=fZ n i:=by
 intro k hk
 obtain⟨d,rfl⟩:=Nat.exists_eq_add_of_le hk
 clear hk
 induction d with
 | zero=>exact Cz λ j hj=>by rw[Nat.testBit_and,Nat.testBit_two_pow_sub_one];simp;intro _;omega
 | succ d ih =>
  rw[<- Nat.add_assoc]
  simp only[fZ,ih,Nat.testBit_and,Nat.testBit_two_pow_sub_one]
  simp
theorem ub{n:Nat}(hn:n<18446744073709551616){i:Int}(h0:0<i)(h1:i<64):uW (oI .u64 (n:Int) (IntKind.u64.wrap (To .u64 1 i-1)))=((lS n i:Nat):Int):=by
 obtain⟨k,rfl⟩:=Int.eq_ofNat_of_zero_le (Int.le_of_lt h0)
 have hp:=Nat.pow_lt_pow_right (a:=2) (by decide) (show k<64 by omega)
 have hp0:=Nat.two_pow_pos k
 rw[Oh (by omega)]
 have e:((2^k:Nat):Int)-1=((2^k-1:Nat):Int):=by omega
 rw[e,lM (by omega),nS hn (by omega),pG (Nat.lt_of_le_of_lt Nat.and_le_left hn),dr n 64 (by omega)]
 unfold lS
 rw[Int.toNat_natCast,Nat.min_eq_left (by omega)]
def dL(n:Nat)(i:Int):Nat:=if 0<=i/\i<64 then n ||| 2^i.toNat else n
def vF(n:Nat)(i:Int):Nat:=if 0<=i/\i<64 then n ^^^ (n &&& 2^i.toNat) else n
theorem ku{n:Nat}(hn:n<18446744073709551616){i:Int}(h0:0<=i)(h1:i<64):rOr .u64 (n:Int) (To .u64 1 i)=((dL n i:Nat):Int):=by
 obtain⟨k,rfl⟩:=Int.eq_ofNat_of_zero_le h0
 have hp:=Nat.pow_lt_pow_right (a:=2) (by decide) (show k<64 by omega)
 rw[Oh (by omega),ra hn (by omega),dL,if_pos ⟨h0,h1⟩]
 rfl
theorem Ax{n:Nat}(hn:n<18446744073709551616)(i:Int):dL n i<18446744073709551616:=by
 unfold dL
 split
 ·rename_i h
  have hp:=Nat.pow_lt_pow_right (a:=2) (by decide) (show i.toNat<64 by omega)
  exact Nat.or_lt_two_pow (n:=64) hn hp
 ·exact hn
end
end Go.Ct
namespace Go.Proofs.YtbajmaoegmbfgaaGreat
section
open Go.RowKit Go.Ct
theorem Pa{n:Nat}(hn:n<18446744073709551616)(i:Int)(w:World):Calls Tryz.prog 195 #[.int .u64 (n:Int),.int .i64 i] w λ e w'=>e=.returned (.bool (nY n i))/\St w [] [] w':=by
 refine enter Tryz.func195 Tryz.ntmps195 rfl rfl (SF.s0 w) ?_
 simp only[bY]
 refine cR ?_;refine J2 ?_;refine kR ?_;refine aA ?_
 (refine eM 7 (λ g7=>?_) (λ g7=>?_)<;>(first|refine aJ ?_|(refine aF ?_;refine aA ?_)))
 all_goals (refine pq ?_;refine aA ?_)
 all_goals (first|refine aJ ?_|(refine eM 11 (λ g11=>?_) (λ g11=>?_)<;>(first|refine aJ ?_|(refine aF ?_;refine aA ?_))))
 all_goals ((first|refine aJ ?_|(refine aF ?_;refine aA ?_));(first|refine aJ ?_|(refine aF ?_;refine gF ?_));(first|refine aJ ?_|(refine aF ?_;refine Dv ?_));(first|refine aJ ?_|(refine aF ?_;refine Ao ?_));refine zR ?_;refine J1 ?_)
 all_goals
 refine aT Tryz.results195 (λ w hw=>?_)
 first|(rw[ql n (by omega)];exact⟨rfl,hw.done⟩)|(rw[Ut n (by omega)];exact⟨rfl,hw.done⟩)|(rw[<- Wm hn (by omega) (by omega)];exact⟨rfl,hw.done⟩)
theorem Ze(i:Int)(w:World):Calls Tryz.prog 232 #[.int .i64 i] w λ e w'=>e=.returned (.bool (decide (0<=i/\i<64)))/\St w [] [] w':=by
 refine enter Tryz.func232 Tryz.ntmps232 rfl rfl (SF.s0 w) ?_
 simp only[bY]
 refine cR ?_;refine J2 ?_;refine kR ?_;refine aA ?_
 (refine eM 5 (λ g5=>?_) (λ g5=>?_)<;>(first|refine aJ ?_|(refine aF ?_;refine aA ?_)))
 all_goals (refine pq ?_;refine J1 ?_)
 all_goals
 refine aT Tryz.results232 (λ w hw=>?_)
 first|(rw[decide_eq_false (by omega)];exact⟨rfl,hw.done⟩)|(rw[show decide (0<=i/\i<64)=decide (i<64) by simp;omega];exact⟨rfl,hw.done⟩)
theorem aBb{n:Nat}(hn:n<18446744073709551616)(i:Int)(w:World):Calls Tryz.prog 191 #[.int .u64 (n:Int),.int .i64 i] w λ e w'=>e=.returned (.bool (nY n i))/\St w [] [] w':=by
 refine enter Tryz.func191 Tryz.ntmps191 rfl rfl (SF.s0 w) ?_
 simp only[bY]
 refine cR ?_;refine J2 ?_;refine aR (cV (hc:=λ w1 hw=>Ze i w1)) (λ x6=>?_);refine aA ?_
 (refine eM 7 (λ g7=>?_) (λ g7=>?_)<;>(first|refine aJ ?_|(refine aF ?_;refine aA ?_)))
 all_goals ((first|refine aJ ?_|(refine aF ?_;refine aA ?_));(first|refine aJ ?_|(refine aF ?_;refine gF ?_));(first|refine aJ ?_|(refine aF ?_;refine Dv ?_));(first|refine aJ ?_|(refine aF ?_;refine Ao ?_));refine zR ?_;refine J1 ?_)
 all_goals
 refine aT Tryz.results191 (λ w hw=>?_)
 first|(rw[<- Wm hn (by omega) (by omega)];exact⟨rfl,hw.done⟩)|(rw[show nY n i=false by simp[nY];omega];exact⟨rfl,hw.done⟩)
theorem Pq{n:Nat}(hn:n<18446744073709551616)(i:Int)(w:World):Calls Tryz.prog 207 #[.int .u64 (n:Int),.int .i64 i] w λ e w'=>e=.returned (.int .i64 ((lS n i:Nat):Int))/\St w [] [] w':=by
 refine enter Tryz.func207 Tryz.ntmps207 rfl rfl (SF.s0 w) ?_
 simp only[bY]
 refine cR ?_;refine Is ?_;refine Fs ?_
 refine fF [5,6,7,8,9,10,11,12,13,14,15,16,17,18,19,20] (λ k=>[(5,.int .i64 ((fZ n k:Nat):Int)),(6,.int .i64 ((k:Nat):Int))]) (λ k=>k<=64/\(k:Int)<=max i 0) (λ k=>64-k) (0) (⟨by decide,by omega⟩) ?_ (λ k f hx=>?_)
 ·repeat (first|exact bG _|refine bA (by exact rfl) ?_)
 dsimp only[gR,List.map,List.cons_append,List.nil_append]
 have hcl:=F9 n k
 refine kM ?_;refine Fv ?_
 (refine eM 9 (λ g9=>?_) (λ g9=>?_)<;>(first|refine aJ ?_|(refine aF ?_;refine aA ?_)))
 all_goals ((first|refine aJ ?_|(refine aF ?_;refine aA ?_));refine pq ?_;refine aH ?_)
 all_goals
 refine bE (λ c13=>?_) (λ c13=>?_)
 ·try exact nv c13
  all_goals (refine qI ?_;refine iO ?_;refine aR (cV (hc:=λ w1 hw=>Pa hn (k:Int) w1)) (λ x18=>?_);refine aH ?_)
  all_goals
   refine bE (λ c18=>?_) (λ c18=>?_)
   ·refine yH ?_;refine eP ?_;refine yH ?_
    refine dY (k+1) ?_ ?_ ?_
    ·omega
    ·repeat' (first|exact bG _|refine bA ?_ ?_)
     all_goals (first|exact rfl|(rw[A8 n (by omega) (by omega),Int.toNat_natCast] at *;conv=>{lhs;whnf};congr 2;simp only[fZ];simp_all;done))
    ·omega
   ·refine oB ?_;refine yH ?_
    refine dY (k+1) ?_ ?_ ?_
    ·omega
    ·repeat' (first|exact bG _|refine bA ?_ ?_)
     all_goals (first|exact rfl|(rw[A8 n (by omega) (by omega),Int.toNat_natCast] at *;conv=>{lhs;whnf};congr 2;simp only[fZ];simp_all;done))
    ·omega
 ·all_goals (refine bM rfl ?_;refine J2 ?_;refine J1 ?_)
  all_goals
   refine aT Tryz.results207 (λ w hw=>?_)
   have:lS n i=fZ n k:=by unfold lS;congr 1;omega
   rw[this]
   exact⟨rfl,hw.done⟩
theorem Th{n:Nat}(hn:n<18446744073709551616)(w:World):Calls Tryz.prog 170 #[.int .u64 (n:Int)] w λ e w'=>e=.returned (.int .i64 ((fZ n 64:Nat):Int))/\St w [] [] w':=by
 refine enter Tryz.func170 Tryz.ntmps170 rfl rfl (SF.s0 w) ?_
 simp only[bY]
 refine cR ?_;refine J2 ?_;refine aR (cV (hc:=λ w1 hw=>Pq hn 64 w1)) (λ x4=>?_);refine J1 ?_
 refine aT Tryz.results170 (λ w hw=>?_)
 exact⟨rfl,hw.done⟩
theorem Z2{n:Nat}(hn:n<18446744073709551616)(w:World):Calls Tryz.prog 198 #[.int .u64 (n:Int)] w λ e w'=>e=.returned (.int .i64 ((fZ n 64:Nat):Int))/\St w [] [] w':=by
 rw[<- pG hn];exact Lm _ w
theorem aAK{n:Nat}(hn:n<18446744073709551616)(i:Int)(w:World):Calls Tryz.prog 192 #[.int .u64 (n:Int),.int .i64 i] w λ e w'=>e=.returned (.int .i64 ((lS n i:Nat):Int))/\St w [] [] w':=by
 refine enter Tryz.func192 Tryz.ntmps192 rfl rfl (SF.s0 w) ?_
 simp only[bY]
 refine cR ?_;refine kM ?_;refine vN ?_;refine aH ?_
 refine bE (λ c6=>?_) (λ c6=>?_)
 ·refine cR ?_
  refine aT Tryz.results192 (λ w hw=>?_)
  (rw[show lS n i=0 by unfold lS;rw[show min i.toNat 64=0 by omega];rfl];exact⟨rfl,hw.done⟩)
 ·refine lA ?_;refine J2 ?_;refine kR ?_;refine aH ?_
  refine bE (λ c8=>?_) (λ c8=>?_)
  ·refine J2 ?_;(refine aR (by exact cV (hc:=λ w1 hw=>Z2 hn w1)) (λ x10=>?_));refine J1 ?_
   refine aT Tryz.results192 (λ w hw=>?_)
   (rw[show lS n i=fZ n 64 by unfold lS;congr 1;omega];exact⟨rfl,hw.done⟩)
  ·refine yV ?_;refine gF ?_;refine v8 ?_;refine aBP ?_;refine Ao ?_;(refine aR (by exact cV (hc:=λ w1 hw=>Lm (oI .u64 (n:Int) (IntKind.u64.wrap (To .u64 1 i-1))) w1)) (λ x17=>?_));refine J1 ?_
   refine aT Tryz.results192 (λ w hw=>?_)
   (rw[<- ub hn (by omega) (by omega)];exact⟨rfl,hw.done⟩)
theorem mT{n:Nat}(hn:n<18446744073709551616)(i:Int)(w:World):Calls Tryz.prog 254 #[.int .u64 (n:Int),.int .i64 i] w λ e w'=>e=.returned (.int .u64 ((dL n i:Nat):Int))/\St w [] [] w':=by
 refine enter Tryz.func254 Tryz.ntmps254 rfl rfl (SF.s0 w) ?_
 simp only[bY]
 refine cR ?_;refine kM ?_;refine Fv ?_
 (refine eM 7 (λ g7=>?_) (λ g7=>?_)<;>(first|refine aJ ?_|(refine aF ?_;refine aA ?_)))
 all_goals (refine Iw ?_;refine aH ?_)
 all_goals
 refine bE (λ c10=>?_) (λ c10=>?_)
 ·all_goals (refine J2 ?_;refine J1 ?_)
  all_goals
   refine aT Tryz.results254 (λ w hw=>?_)
   (rw[show dL n i=n by unfold dL;rw[if_neg (by omega)]];exact⟨rfl,hw.done⟩)
 ·try exact nv c10
  all_goals (refine yV ?_;refine gF ?_;refine v8 ?_;refine aCz ?_;refine J1 ?_)
  all_goals
   refine aT Tryz.results254 (λ w hw=>?_)
   (rw[<- ku hn (by omega) (by omega)];exact⟨rfl,hw.done⟩)
end

/- C-nodes are maps: the plain laws. -/
end Go.Proofs.YtbajmaoegmbfgaaGreat
namespace Go.Ct
section
open Go Go.RowKit
def sH(b:Nat)(xs:List Int)(k:Nat):Option Int:=if b.testBit k=true then some (xs.getD (fZ b k) 0) else none
def Bi(m:Nat->Option Int):Nat->Nat
 | 0=>0
 | k+1=>if(m k).isSome=true then Bi m k ||| 2^k else Bi m k
def rA(m:Nat->Option Int):Nat->List Int
 | 0=>[]
 | k+1=>rA m k++(m k).toList
def Ng(m:Nat->Option Int)(i:Nat)(o:Option Int)(k:Nat):Option Int:=if k=i then o else m k
structure BV(b:Nat)(xs:List Int):Prop where
 lt:b<18446744073709551616
 len:xs.length=fZ b 64
 pos:∀i,i<xs.length->1<=xs.getD i 0
theorem V6(m:Nat->Option Int)(j:Nat):∀k,(Bi m k).testBit j=(decide (j<k)&&(m j).isSome)
 | 0=>by simp[Bi]
 | k+1=>by
  have ih:=V6 m j k
  simp only[Bi]
  by_cases hjk:j=k
  ·subst hjk
   by_cases h:(m j).isSome=true
   ·rw[if_pos h,Nat.testBit_or,Nat.testBit_two_pow];simp[h]
   ·rw[if_neg h,ih];simp at h;simp[h]
  ·have h2:(2^k).testBit j=false:=by rw[Nat.testBit_two_pow];exact decide_eq_false (λ h=>hjk h.symm)
   split
   ·rw[Nat.testBit_or,ih,h2,Bool.or_false]
    congr 1
    exact decide_eq_decide.2 (by omega)
   ·rw[ih]
    congr 1
    exact decide_eq_decide.2 (by omega)
theorem fx(m:Nat->Option Int):∀k,Bi m k<2^k
 | 0=>by simp[Bi]
 | k+1=>by
  have ih:=fx m k
  have h2:2^(k+1)=2^k+2^k:=by rw[Nat.pow_succ];omega
  simp only[Bi]
  split
  ·refine Nat.or_lt_two_pow (by omega) ?_
   have:=Nat.two_pow_pos k
   omega
  ·omega
theorem B8{xs:List Int}{i:Nat}(h:i<xs.length):xs.getD i 0∈xs:=by
 rw[kQ,List.getElem?_eq_getElem h]
 exact List.getElem_mem h
theorem Ps{m m':Nat->Option Int}:∀n,(∀k,k<n->m k=m' k)->Bi m n=Bi m' n/\rA m n=rA m' n
 | 0,_=>⟨rfl,rfl⟩
 | n+1,h=>by
  obtain⟨h1,h2⟩:=Ps n λ k hk=>h k (by omega)
  simp only[Bi,rA,h1,h2,h n (by omega),and_self]
theorem vM(b:Nat)(k:Nat):∀d,fZ b k<=fZ b (k+d)
 | 0=>Nat.le_refl _
 | d+1=>by have:=vM b k d;rw[<- Nat.add_assoc];simp only[fZ];omega
theorem oL{b k n:Nat}(h:k<n)(hb:b.testBit k=true):fZ b k<fZ b n:=by
 obtain⟨d,rfl⟩:=Nat.exists_eq_add_of_le (Nat.succ_le_of_lt h)
 have:=vM b (k+1) d
 simp only[fZ,hb,if_true] at this
 exact this
theorem U5{b:Nat}{xs:List Int}(h:xs.length=fZ b 64):∀k,k<=64->rA (sH b xs) k=xs.take (fZ b k)
 | 0,_=>by simp[rA,fZ]
 | k+1,hk=>by
  have ih:=U5 h k (by omega)
  simp only[rA,ih,sH,fZ]
  split
  ·rename_i hb
   have:=oL (n:=64) (by omega) hb
   rw[List.take_add_one,Option.toList,kQ,List.getElem?_eq_getElem (by omega)]
   rfl
  ·simp
theorem ak{b:Nat}{xs:List Int}(h:BV b xs):Bi (sH b xs) 64=b/\rA (sH b xs) 64=xs:=by
 refine⟨Nat.eq_of_testBit_eq λ j=>?_,?_⟩
 ·rw[V6]
  by_cases hj:j<64
  ·rw[decide_eq_true hj,Bool.true_and]
   unfold sH
   cases hb:b.testBit j<;>simp
  ·rw[decide_eq_false hj,Bool.false_and]
   exact(Nat.testBit_lt_two_pow (Nat.lt_of_lt_of_le h.lt (Nat.pow_le_pow_right (n:=2) (by decide) (show 64<=j by omega)))).symm
 ·rw[U5 h.len 64 (Nat.le_refl _),<- h.len,List.take_length]
theorem Ah{b b' i:Nat}(h:b.testBit i=false)(hb:∀j,j<64->b'.testBit j=(b.testBit j||decide (j=i))):∀k,k<=64->fZ b' k=fZ b k+if i<k then 1 else 0
 | 0,_=>rfl
 | k+1,hk=>by
  have ih:=Ah h hb k (by omega)
  simp only[fZ,ih,hb k (by omega)]
  by_cases hki:k=i
  ·subst hki
   simp[h]
  ·have:decide (k=i)=false:=decide_eq_false hki
   rw[this,Bool.or_false]
   have e:(i<k+1)↔(i<k):=by omega
   simp only[e]
   omega
def uL(xs:List Int)(p:Nat)(r:Int):List Int:=xs.take p++r::xs.drop p
def zE(xs:List Int)(p:Nat)(r:Int):List Int:=xs.take p++r::xs.drop (p+1)
def rK(xs:List Int)(p:Nat):List Int:=xs.take p++xs.drop (p+1)
theorem Fh{xs:List Int}{p:Nat}(hp:p<=xs.length)(r:Int):(uL xs p r).length=xs.length+1:=by
 simp[uL];omega
theorem wA{xs:List Int}{p:Nat}(hp:p<xs.length)(r:Int):(zE xs p r).length=xs.length:=by
 simp[zE];omega
theorem Gb{xs:List Int}{p:Nat}(hp:p<xs.length):(rK xs p).length+1=xs.length:=by
 simp[rK];omega
theorem Vw{xs:List Int}{p:Nat}(hp:p<=xs.length)(r:Int)(q:Nat):(uL xs p r).getD q 0=if q<p then xs.getD q 0 else if q=p then r else xs.getD (q-1) 0:=by
 simp only[uL,kQ]
 by_cases h1:q<p
 ·rw[if_pos h1,List.getElem?_append_left (by simp;omega),List.getElem?_take_of_lt h1]
 ·rw[if_neg h1,List.getElem?_append_right (by simp;omega)]
  have:(xs.take p).length=p:=by simp;omega
  rw[this]
  by_cases h2:q=p
  ·subst h2;simp
  ·obtain⟨d,hd⟩:∃d,q-p=d+1:=⟨q-p-1,by omega⟩
   rw[if_neg h2,hd,List.getElem?_cons_succ,List.getElem?_drop]
   congr 2
   omega
theorem K5{xs:List Int}{p:Nat}(hp:p<xs.length)(r:Int)(q:Nat):(zE xs p r).getD q 0=if q=p then r else xs.getD q 0:=by
 simp only[zE,kQ]
 by_cases h1:q<p
 ·rw[if_neg (by omega),List.getElem?_append_left (by simp;omega),List.getElem?_take_of_lt h1]
 ·rw[List.getElem?_append_right (by simp;omega)]
  have:(xs.take p).length=p:=by simp;omega
  rw[this]
  by_cases h2:q=p
  ·subst h2;simp
  ·obtain⟨d,hd⟩:∃d,q-p=d+1:=⟨q-p-1,by omega⟩
   rw[if_neg h2,hd,List.getElem?_cons_succ,List.getElem?_drop]
   congr 2
   omega
theorem Vz{xs:List Int}{p:Nat}(hp:p<xs.length)(q:Nat):(rK xs p).getD q 0=if q<p then xs.getD q 0 else xs.getD (q+1) 0:=by
 simp only[rK,kQ]
 by_cases h1:q<p
 ·rw[if_pos h1,List.getElem?_append_left (by simp;omega),List.getElem?_take_of_lt h1]
 ·rw[if_neg h1,List.getElem?_append_right (by simp;omega)]
  have:(xs.take p).length=p:=by simp;omega
  rw[this,List.getElem?_drop]
  congr 2
  omega
theorem Bt{xs ys:List Int}(h:∀i,i<xs.length->1<=xs.getD i 0)(hy:∀j,j<ys.length->1<=ys.getD j 0∨∃i,i<xs.length/\ys.getD j 0=xs.getD i 0):∀j,j<ys.length->1<=ys.getD j 0:=λ j hj=>by
 rcases hy j hj with h1|⟨i,hi,he⟩
 ·exact h1
 ·rw[he];exact h i hi
section
variable{b i:Nat}{xs:List Int}{r:Int}
theorem Am(b i:Nat)(j:Nat):(b ||| 2^i).testBit j=(b.testBit j||decide (j=i)):=by
 rw[Nat.testBit_or,Nat.testBit_two_pow]
 congr 1
 exact decide_eq_decide.2 eq_comm
theorem vO(b i:Nat)(j:Nat):(b ^^^ (b &&& 2^i)).testBit j=(b.testBit j&&!decide (j=i)):=by
 rw[Nat.testBit_xor,Nat.testBit_and,Nat.testBit_two_pow]
 have:decide (i=j)=decide (j=i):=decide_eq_decide.2 eq_comm
 rw[this]
 cases b.testBit j<;>cases decide (j=i)<;>rfl
theorem H0(h:BV b xs)(hi:i<64)(hb:b.testBit i=false)(hr:1<=r):BV (b ||| 2^i) (uL xs (fZ b i) r)/\∀k,k<64->sH (b ||| 2^i) (uL xs (fZ b i) r) k=Ng (sH b xs) i (some r) k:=by
 have hc:=Ah hb (λ j _=>Am b i j)
 have hp:fZ b i<=xs.length:=by
  obtain⟨d,hd⟩:=Nat.exists_eq_add_of_le (Nat.le_of_lt hi)
  rw[h.len,hd]
  exact vM b i d
 refine⟨⟨Nat.or_lt_two_pow (n:=64) h.lt (Nat.pow_lt_pow_right (a:=2) (by decide) hi),?_,Bt h.pos λ j hj=>?_⟩,λ k hk=>?_⟩
 ·rw[Fh hp,hc 64 (Nat.le_refl _),if_pos hi,h.len]
 ·rw[Fh hp] at hj
  rw[Vw hp]
  by_cases h1:j<fZ b i
  ·rw[if_pos h1];exact .inr ⟨j,by omega,rfl⟩
  ·rw[if_neg h1]
   by_cases h2:j=fZ b i
   ·rw[if_pos h2];exact .inl hr
   ·rw[if_neg h2];exact .inr ⟨j-1,by omega,rfl⟩
 ·simp only[sH,Ng]
  rw[Am,hc k (by omega),Vw hp]
  by_cases hki:k=i
  ·subst hki;simp
  ·rw[if_neg hki,decide_eq_false hki,Bool.or_false]
   by_cases hbk:b.testBit k=true
   ·rw[if_pos hbk,if_pos hbk]
    congr 1
    by_cases hlt:k<i
    ·have:=oL hlt hbk
     rw[if_neg (show ¬i<k by omega),if_pos (by omega)]
     rfl
    ·have:fZ b i<=fZ b k:=by
      obtain⟨d,hd⟩:=Nat.exists_eq_add_of_le (show i<=k by omega)
      rw[hd];exact vM b i d
     rw[if_pos (show i<k by omega),if_neg (by omega),if_neg (by omega)]
     rfl
   ·rw[if_neg hbk,if_neg hbk]
theorem Tb(h:BV b xs)(hi:i<64)(hb:b.testBit i=true)(hr:1<=r):BV b (zE xs (fZ b i) r)/\∀k,k<64->sH b (zE xs (fZ b i) r) k=Ng (sH b xs) i (some r) k:=by
 have hp:fZ b i<xs.length:=by rw[h.len];exact oL hi hb
 refine⟨⟨h.lt,by rw[wA hp,h.len],Bt h.pos λ j hj=>?_⟩,λ k hk=>?_⟩
 ·rw[wA hp] at hj
  rw[K5 hp]
  by_cases h2:j=fZ b i
  ·rw[if_pos h2];exact .inl hr
  ·rw[if_neg h2];exact .inr ⟨j,hj,rfl⟩
 ·simp only[sH,Ng]
  rw[K5 hp]
  by_cases hki:k=i
  ·subst hki;rw[if_pos hb,if_pos rfl,if_pos rfl]
  ·rw[if_neg hki]
   by_cases hbk:b.testBit k=true
   ·rw[if_pos hbk,if_pos hbk,if_neg]
    rcases Nat.lt_or_gt_of_ne hki with hlt|hlt
    ·have:=oL hlt hbk;omega
    ·have:=oL hlt hb;omega
   ·rw[if_neg hbk,if_neg hbk]
theorem Sk(h:BV b xs)(hi:i<64)(hb:b.testBit i=true):BV (b ^^^ (b &&& 2^i)) (rK xs (fZ b i))/\∀k,k<64->sH (b ^^^ (b &&& 2^i)) (rK xs (fZ b i)) k=Ng (sH b xs) i none k:=by
 have hp:fZ b i<xs.length:=by rw[h.len];exact oL hi hb
 have hb':(b ^^^ (b &&& 2^i)).testBit i=false:=by rw[vO];simp
 have hc:=Ah (b':=b) hb' (λ j _=>by
  rw[vO]
  by_cases hji:j=i
  ·subst hji;simp[hb]
  ·rw[decide_eq_false hji];simp)
 refine⟨⟨Nat.xor_lt_two_pow (n:=64) h.lt (Nat.lt_of_le_of_lt Nat.and_le_left h.lt),?_,Bt h.pos λ j hj=>?_⟩,λ k hk=>?_⟩
 ·have:=Gb hp
  have:=hc 64 (Nat.le_refl _)
  rw[if_pos hi] at this
  have:=h.len
  omega
 ·have:=Gb hp
  rw[Vz hp]
  by_cases h1:j<fZ b i
  ·rw[if_pos h1];exact .inr ⟨j,by omega,rfl⟩
  ·rw[if_neg h1];exact .inr ⟨j+1,by omega,rfl⟩
 ·simp only[sH,Ng]
  have hck:=hc k (by omega)
  rw[vO,Vz hp]
  by_cases hki:k=i
  ·subst hki;simp
  ·rw[if_neg hki,decide_eq_false hki,Bool.not_false,Bool.and_true]
   by_cases hbk:b.testBit k=true
   ·rw[if_pos hbk,if_pos hbk]
    congr 1
    by_cases hlt:k<i
    ·have:=oL hlt hbk
     rw[if_neg (show ¬i<k by omega)] at hck
     rw[if_pos (by omega),hck]
     rfl
    ·have:=oL (show i<k by omega) hb
     rw[if_pos (show i<k by omega)] at hck
     rw[if_neg (by omega),hck]
   ·rw[if_neg hbk,if_neg hbk]
end
end

/- What is known of a list, in short. -/
section
open Go Go.RowKit
variable{w0 w:World}{M:List Nat}{H:List (Nat×Obj)}{A F:Fr}{O:List Ow}
end
end Go.Ct
namespace Go.Proofs.YtbajmaoegmbfgaaGreat
section
open Go.RowKit Go.Ct
theorem zO{n:Nd}{xs:List Int}{ys:List Pr}(h:n.kind=3)(hv:cC n xs ys):(xs.length:Int)=uW n.bm/\Pos xs:=by
 obtain⟨_,_,_,_,hv⟩:=hv
 rcases hv with h1|⟨h1,_⟩|⟨_,h2,h3⟩|⟨h1|h1,_⟩|⟨h1,_⟩|⟨h1,_⟩|⟨h1,_⟩
 all_goals first|exact⟨h2,h3⟩|(rw[h] at h1;exact absurd h1 (by decide))
end

/- The reference's Valid. -/
section
open Go.RowKit Go.Ct
theorem y0 (n : Nd) (h1 : 1 ≤ n.kind) (h8 : n.kind ≤ 8) (w : World) : Calls Tryz.prog 169 #[n.v] w fun e w' => e = .returned n.own.v ∧ St w [] [] w' := by
  refine enter Tryz.func169 Tryz.ntmps169 rfl rfl (SF.s0 w) ?_
  simp only [bY]
  refine J0 ?_; refine bO (fun x1 => ?_); refine aI (fun x2 => ?_); refine aH ?_; refine Du ?_; refine aH ?_; refine cI ?_; refine lF ?_
  refine bE (fun c5 => ?_) (fun c5 => ?_)
  · refine gZ ?_; refine xS ?_
    refine bD Tryz.results169 (fun w hw => ?_)
    (exact ⟨by simp only [Nd.own, beq_iff_eq, *, if_true, if_false]; rfl, hw.done⟩)
  · refine lF ?_
    refine bE (fun c10 => ?_) (fun c10 => ?_)
    · refine gZ ?_; refine J3 ?_; refine J3 ?_; refine xS ?_
      refine bD Tryz.results169 (fun w hw => ?_)
      (exact ⟨by simp only [Nd.own, beq_iff_eq, *, if_true, if_false]; rfl, hw.done⟩)
    · refine lF ?_
      refine bE (fun c19 => ?_) (fun c19 => ?_)
      · refine gZ ?_; refine J3 ?_; refine J3 ?_; refine J3 ?_; refine xS ?_
        refine bD Tryz.results169 (fun w hw => ?_)
        (exact ⟨by simp only [Nd.own, beq_iff_eq, *, if_true, if_false]; rfl, hw.done⟩)
      · refine lF ?_
        refine bE (fun c30 => ?_) (fun c30 => ?_)
        · refine gZ ?_; refine J3 ?_; refine J3 ?_; refine J3 ?_; refine xS ?_
          refine bD Tryz.results169 (fun w hw => ?_)
          (exact ⟨by simp only [Nd.own, beq_iff_eq, *, if_true, if_false]; rfl, hw.done⟩)
        · refine lF ?_
          refine bE (fun c41 => ?_) (fun c41 => ?_)
          · refine gZ ?_; refine J3 ?_; refine J3 ?_; refine J3 ?_; refine J3 ?_; refine xS ?_
            refine bD Tryz.results169 (fun w hw => ?_)
            (exact ⟨by simp only [Nd.own, beq_iff_eq, *, if_true, if_false]; rfl, hw.done⟩)
          · refine lF ?_
            refine bE (fun c54 => ?_) (fun c54 => ?_)
            · refine gZ ?_; refine J3 ?_; refine J3 ?_; refine J3 ?_; refine xS ?_
              refine bD Tryz.results169 (fun w hw => ?_)
              (exact ⟨by simp only [Nd.own, beq_iff_eq, *, if_true, if_false]; rfl, hw.done⟩)
            · refine lF ?_
              refine bE (fun c65 => ?_) (fun c65 => ?_)
              · refine gZ ?_; refine J3 ?_; refine xS ?_
                refine bD Tryz.results169 (fun w hw => ?_)
                (exact ⟨by simp only [Nd.own, beq_iff_eq, *, if_true, if_false]; rfl, hw.done⟩)
              · refine lF ?_
                refine bE (fun c72 => ?_) (fun c72 => ?_)
                · refine gZ ?_; refine J3 ?_; refine J3 ?_; refine J3 ?_; refine J3 ?_; refine xS ?_
                  refine bD Tryz.results169 (fun w hw => ?_)
                  (exact ⟨by simp only [Nd.own, beq_iff_eq, *, if_true, if_false]; rfl, hw.done⟩)
                · refine oB ?_; refine J0 ?_; refine xS ?_
                  refine bD Tryz.results169 (fun w hw => ?_)
                  (exfalso; omega)
theorem gh{n:Nd}{xs:List Int}{ys:List Pr}(h:n.kind=3){k:Nat}(hk:k<xs.length)(hx:xs.getD k 0<1):false=true↔cC n xs ys:=by
 simp only[Bool.false_eq_true,false_iff]
 intro hv
 have:=(zO h hv).2 k hk
 omega
theorem tq{n:Nd}{xs:List Int}{ys:List Pr}{c:Int}(h:n.kind=3)(he:rS n n.own xs (n.kC xs) ys (n.jD ys))(h1:0<=n.main)(h2:0<=n.prev)(h3:0<=n.status)(eo:uW n.bm=c)(hp:Pos xs):((xs.length:Int)==c)=true↔cC n xs ys:=by
 rw[beq_iff_eq,<- eo]
 exact⟨λ hl=>⟨he,h1,h2,h3,.inr (.inr (.inl ⟨h,hl,hp⟩))⟩,λ hv=>(zO h hv).1⟩
theorem Hf{n:Nd}{xs:List Int}{ys:List Pr}{w:World}{b:Nat}(hb:n.bm=(b:Int))(hb2:b<18446744073709551616)(hr:qS w n xs ys) :
  Calls Tryz.prog 126 #[n.v] w λ e w'=>∃r:Bool,e=.returned (.bool r)/\(r=true↔cC n xs ys)/\St w [] [] w':=by
 have e1:=hr.brN;have e2:=hr.prN
 obtain⟨kind,gen,main,bm,brA,brN,brC,hash,key,val,prA,prN,prK,prev,bN,exp,new,status⟩:=n
 simp only at e1 e2 hb
 subst e1 e2 hb
 have eo:uW (b:Int)=((fZ b 64:Nat):Int):=pG hb2
 have hxl:=hr.brS
 refine enter Tryz.func126 Tryz.ntmps126 rfl rfl (SF.s2 hr.br hr.pr) ?_
 simp only[bY]
 simp only[Nd.v,Nd.cells]
 refine J0 ?_;refine bO (λ x1=>?_);refine iZ ?_;refine aV ?_;refine dX [(0,[]),(1,[]),(2,[]),(3,[]),(4,[]),(5,[]),(6,[]),(7,[]),(8,[]),(9,[]),(10,[]),(11,[9]),(12,[]),(13,[]),(14,[]),(15,[]),(16,[]),(17,[]),(18,[]),(19,[]),(20,[]),(21,[]),(22,[]),(23,[]),(24,[]),(25,[]),(26,[]),(27,[]),(28,[]),(29,[])] ?_;refine lV ?_;refine zU ?_;refine aP ?_
 (refine Zk 7 (λ g7=>?_) (λ g7=>?_)<;>(first|refine dE ?_|(refine aQ ?_)))
 all_goals ((first|refine dE ?_|(refine bP ?_));(first|refine dE ?_|(refine aAW ?_));refine eQ ?_;refine aP ?_)
 all_goals (first|refine dE ?_|(refine Zk 12 (λ g12=>?_) (λ g12=>?_)<;>(first|refine dE ?_|(refine bP ?_))))
 all_goals ((first|refine dE ?_|(refine bP ?_));(first|refine dE ?_|(refine cN (i:=11) (hq:=(cV (hc:=λ w1 hw=>y0 (⟨kind,gen,main,(b:Int),brA,xs.length,brC,hash,key,val,prA,ys.length,prK,prev,bN,exp,new,status⟩:Nd) (show(1:Int)<=kind by omega) (show kind<=8 by omega) w1))) (h:=λ x15=>?_)));(first|refine dE ?_|(refine bC (i:=12) (hq:=(c0 (V:=.bool) (hc:=λ w1 hw=>Wy (a:=(⟨kind,gen,main,(b:Int),brA,xs.length,brC,hash,key,val,prA,ys.length,prK,prev,bN,exp,new,status⟩:Nd)) (b:=((⟨kind,gen,main,(b:Int),brA,xs.length,brC,hash,key,val,prA,ys.length,prK,prev,bN,exp,new,status⟩:Nd)).own) (hr.fP hw.done) (hr.fP hw.done).own))) (h:=λ x16 h16=>?_)));(first|refine dE ?_|(refine F3 ?_));refine eQ ?_;refine aP ?_)
 all_goals (first|refine dE ?_|(refine Zk 19 (λ g19=>?_) (λ g19=>?_)<;>(first|refine dE ?_|(refine aQ ?_))))
 all_goals ((first|refine dE ?_|(refine bP ?_));(first|refine dE ?_|(refine zU ?_));refine eQ ?_;refine aP ?_)
 all_goals (first|refine dE ?_|(refine Zk 24 (λ g24=>?_) (λ g24=>?_)<;>(first|refine dE ?_|(refine aQ ?_))))
 all_goals ((first|refine dE ?_|(refine bP ?_));(first|refine dE ?_|(refine zU ?_));refine eQ ?_;refine aP ?_)
 all_goals (first|refine dE ?_|(refine Zk 29 (λ g29=>?_) (λ g29=>?_)<;>(first|refine dE ?_|(refine aQ ?_))))
 all_goals ((first|refine dE ?_|(refine bP ?_));(first|refine dE ?_|(refine zU ?_));refine eQ ?_;refine eC ?_)
 all_goals
 refine bE (λ c33=>?_) (λ c33=>?_)
 ·all_goals refine cR ?_
  all_goals
   refine aT Tryz.results126 (λ w hw=>?_)
   refine⟨_,rfl,?_,hw.done⟩
   first|(simp_all[cC];done)|(simp_all[cC];omega)
 ·try exact nv c33
  all_goals (refine lA ?_;refine gZ ?_;refine aH ?_;refine cI ?_;refine lF ?_)
  all_goals
   refine bE (λ c36=>?_) (λ c36=>?_)
   ·refine gZ ?_;refine kR ?_;refine J1 ?_
    refine aT Tryz.results126 (λ w hw=>?_)
    refine⟨_,rfl,?_,hw.done⟩
    (simp_all[cC];done)
   ·refine lF ?_
    refine bE (λ c41=>?_) (λ c41=>?_)
    ·refine aV ?_;refine Fs ?_
     refine fF [2,3,43,44,45,46,47,48,49,50,51,52,53,54,55] (λ k=>[(3,.int .i64 ((k:Nat):Int))]) (λ k=>k<=xs.length/\∀i,i<k->1<=xs.getD i 0) (λ k=>xs.length-k) (0) (⟨Nat.zero_le _,λ i hi=>absurd hi (Nat.not_lt_zero i)⟩) ?_ (λ k f hx=>?_)
     ·repeat (first|exact bG _|refine bA (by exact rfl) ?_)
     dsimp only[gR,List.map,List.cons_append,List.nil_append]
     refine kM ?_;refine P4 ?_;refine vX ?_
     refine bE (λ c47=>?_) (λ c47=>?_)
     ·refine qI ?_;refine gZ ?_;refine aA ?_;refine Yu ?_;refine vX ?_
      refine bE (λ c55=>?_) (λ c55=>?_)
      ·refine cR ?_
       refine aT Tryz.results126 (λ w hw=>?_)
       refine⟨_,rfl,?_,hw.done⟩
       exact gh c41 (k:=k) (by omega) (by assumption)
      ·refine oB ?_;refine yH ?_
       refine dY (k+1) ?_ ?_ ?_
       ·omega
       ·repeat' (first|exact bG _|refine bA ?_ ?_)
        exact rfl
       ·exact⟨by omega,λ i hi=>by rcases Nat.lt_succ_iff_lt_or_eq.1 hi with h|rfl;exact hx.2 i h;omega⟩
     ·refine bM rfl ?_;refine aV ?_;refine dX [(0,[]),(1,[]),(2,[]),(3,[]),(4,[]),(5,[1]),(6,[]),(7,[])] ?_;refine lV ?_;refine pV ?_;refine lV ?_;refine cN (i:=5) (hq:=(cV (hc:=λ w1 hw=>Th hb2 w1))) (h:=λ x61=>?_);refine mG ?_;refine J7 ?_
      refine aT Tryz.results126 (λ w hw=>?_)
      refine⟨_,rfl,?_,hw.done⟩
      exact tq c41 (h16.1 (by simpa using g19)) (show 0<=main by omega) (show 0<=prev by omega) (show 0<=status by omega) eo (λ i hi=>hx.2 i (by omega))
    ·refine aV ?_;refine lF ?_
     refine bE (λ c63=>?_) (λ c63=>?_)
     ·refine bB ?_
      refine bE (λ c63=>?_) (λ c63=>?_)
      ·refine gZ ?_;refine jX ?_;refine vN ?_;refine J1 ?_
       refine aT Tryz.results126 (λ w hw=>?_)
       refine⟨_,rfl,?_,hw.done⟩
       (simp_all[cC];omega)
      ·refine lF ?_
       refine bE (λ c70=>?_) (λ c70=>?_)
       ·refine gZ ?_;refine dI ?_;refine kR ?_;refine aA ?_
        (refine eM 76 (λ g76=>?_) (λ g76=>?_)<;>(first|refine aJ ?_|(refine aF ?_;refine aE ?_)))
        all_goals ((first|refine aJ ?_|(refine aF ?_;refine bR ?_));(first|refine aJ ?_|(refine aF ?_;refine aC (c0 (V:=.bool) (hc:=λ w1 hw=>mD (hw.cl fin) hr.prS)) (λ x79 h79=>?_)));refine cH ?_;refine aA ?_)
        all_goals (first|refine aJ ?_|(refine eM 81 (λ g81=>?_) (λ g81=>?_)<;>(first|refine aJ ?_|(refine aF ?_;refine aE ?_))))
        all_goals ((first|refine aJ ?_|(refine aF ?_;refine bR ?_));(first|refine aJ ?_|(refine aF ?_;refine aC (c0 (V:=.bool) (hc:=λ w1 hw=>di (hw.cl fin) hr.prS)) (λ x84 h84=>?_)));refine cH ?_;refine J1 ?_)
        all_goals
        refine aT Tryz.results126 (λ w hw=>?_)
        refine⟨_,rfl,?_,hw.done⟩
        (simp_all[cC];done)
       ·refine lF ?_
        refine bE (λ c86=>?_) (λ c86=>?_)
        ·refine gZ ?_;refine kR ?_;refine J1 ?_
         refine aT Tryz.results126 (λ w hw=>?_)
         refine⟨_,rfl,?_,hw.done⟩
         (simp_all[cC];done)
        ·refine lF ?_
         refine bE (λ c91=>?_) (λ c91=>?_)
         ·refine gZ ?_;refine kR ?_;refine aA ?_
          (refine eM 96 (λ g96=>?_) (λ g96=>?_)<;>(first|refine aJ ?_|(refine aF ?_;refine aE ?_)))
          all_goals (refine J86 ?_;refine cH ?_;refine aA ?_)
          all_goals (first|refine aJ ?_|(refine eM 101 (λ g101=>?_) (λ g101=>?_)<;>(first|refine aJ ?_|(refine aF ?_;refine aE ?_))))
          all_goals (refine J86 ?_;refine cH ?_;refine J1 ?_)
          all_goals
          refine aT Tryz.results126 (λ w hw=>?_)
          refine⟨_,rfl,?_,hw.done⟩
          (simp_all[cC];done)
         ·refine oB ?_;refine cR ?_
          refine aT Tryz.results126 (λ w hw=>?_)
          refine⟨_,rfl,?_,hw.done⟩
          (simp_all[cC];done)
     ·refine dW ?_;refine Wb ?_
      refine bE (λ c63=>?_) (λ c63=>?_)
      ·refine gZ ?_;refine jX ?_;refine vN ?_;refine J1 ?_
       refine aT Tryz.results126 (λ w hw=>?_)
       refine⟨_,rfl,?_,hw.done⟩
       (simp_all[cC];omega)
      ·refine lF ?_
       refine bE (λ c70=>?_) (λ c70=>?_)
       ·refine gZ ?_;refine dI ?_;refine kR ?_;refine aA ?_
        (refine eM 76 (λ g76=>?_) (λ g76=>?_)<;>(first|refine aJ ?_|(refine aF ?_;refine aE ?_)))
        all_goals ((first|refine aJ ?_|(refine aF ?_;refine bR ?_));(first|refine aJ ?_|(refine aF ?_;refine aC (c0 (V:=.bool) (hc:=λ w1 hw=>mD (hw.cl fin) hr.prS)) (λ x79 h79=>?_)));refine cH ?_;refine aA ?_)
        all_goals (first|refine aJ ?_|(refine eM 81 (λ g81=>?_) (λ g81=>?_)<;>(first|refine aJ ?_|(refine aF ?_;refine aE ?_))))
        all_goals ((first|refine aJ ?_|(refine aF ?_;refine bR ?_));(first|refine aJ ?_|(refine aF ?_;refine aC (c0 (V:=.bool) (hc:=λ w1 hw=>di (hw.cl fin) hr.prS)) (λ x84 h84=>?_)));refine cH ?_;refine J1 ?_)
        all_goals
        refine aT Tryz.results126 (λ w hw=>?_)
        refine⟨_,rfl,?_,hw.done⟩
        first|(simp_all[cC];done)|(simp_all[cC];omega)
       ·refine lF ?_
        refine bE (λ c86=>?_) (λ c86=>?_)
        ·refine gZ ?_;refine kR ?_;refine J1 ?_
         refine aT Tryz.results126 (λ w hw=>?_)
         refine⟨_,rfl,?_,hw.done⟩
         (simp_all[cC];done)
        ·refine lF ?_
         refine bE (λ c91=>?_) (λ c91=>?_)
         ·refine gZ ?_;refine kR ?_;refine aA ?_
          (refine eM 96 (λ g96=>?_) (λ g96=>?_)<;>(first|refine aJ ?_|(refine aF ?_;refine aE ?_)))
          all_goals (refine J86 ?_;refine cH ?_;refine aA ?_)
          all_goals (first|refine aJ ?_|(refine eM 101 (λ g101=>?_) (λ g101=>?_)<;>(first|refine aJ ?_|(refine aF ?_;refine aE ?_))))
          all_goals (refine J86 ?_;refine cH ?_;refine J1 ?_)
          all_goals
          refine aT Tryz.results126 (λ w hw=>?_)
          refine⟨_,rfl,?_,hw.done⟩
          first|(simp_all[cC];done)|(simp_all[cC];omega)
         ·refine oB ?_;refine cR ?_
          refine aT Tryz.results126 (λ w hw=>?_)
          refine⟨_,rfl,?_,hw.done⟩
          (simp_all[cC];omega)
end

end Go.Proofs.YtbajmaoegmbfgaaGreat
