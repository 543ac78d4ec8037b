/- Merged. -/
import Derived.Test.YtdnklbipddigbaaGreatGBits
import Derived.Test.YtdnklbipddigbaaGreatGSlices
import Derived.Test.YtdnklbipddigbaaGreatAuto
set_option linter.unusedSimpArgs false
set_option linter.unusedVariables false
namespace Go.Proofs.YtdnklbipddigbaaGreat
open Go.RowKit Go.Ct
section
theorem ones_c(b:Int)(w:World):Calls Tryz.prog 227 #[.int .u64 b] w λ e w'=>e=.returned (.int .i64 (rOnes b))/\St w [] [] w':=by refine enter Tryz.func227 Tryz.ntmps227 rfl rfl (SF.s0 w) ?_;simp only[mkS];refine J10 ?_;refine J2 ?_;refine j_shr ?_;refine j_and ?_;refine j_move ?_;refine j_and ?_;refine j_add ?_;refine Ka7 ?_;refine j_shr ?_;refine j_and ?_;refine j_move ?_;refine j_and ?_;refine j_add ?_;refine Ka7 ?_;refine j_shr ?_;refine j_move ?_;refine j_add ?_;refine j_and ?_;refine J73 ?_;refine j_shr ?_;refine j_add ?_;refine J73 ?_;refine j_shr ?_;refine j_add ?_;refine J73 ?_;refine j_shr ?_;refine j_add ?_;refine Ka7 ?_;refine j_convert ?_;refine j_and ?_;refine J1 ?_;refine k_rv Tryz.results227 (λ w hw=>?_);exact⟨rfl,hw.done⟩
theorem count_c(b:Int)(w:World):Calls Tryz.prog 186 #[.int .u64 b] w λ e w'=>e=.returned (.int .i64 (rOnes b))/\St w [] [] w':=by refine enter Tryz.func186 Tryz.ntmps186 rfl rfl (SF.s0 w) ?_;simp only[mkS];refine J10 ?_;refine J2 ?_;refine j_own (cV (hc:=λ w1 hw=>ones_c b w1)) (λ x4=>?_);refine J1 ?_;refine k_rv Tryz.results186 (λ w hw=>?_);exact⟨rfl,hw.done⟩
theorem ndValid_c{n:Nd}{xs:List Int}{ys:List Pr}{w:World}(hr:Rep w n xs ys) :
  Calls Tryz.prog 144 #[n.v] w λ e w'=>∃r:Bool,e=.returned (.bool r)/\(r=true↔NdValid n xs ys)/\St w [] [] w':=by
 have e1:=hr.brN;have e2:=hr.prN
 refine enter Tryz.func144 Tryz.ntmps144 rfl rfl (SF.s0 w) ?_;simp only[mkS];refine J0 ?_;refine j_box (λ x1=>?_);refine J27 ?_;refine k_seq ?_;refine k_dp [(0,[]),(1,[]),(2,[0]),(3,[]),(4,[])] ?_;refine r_load ?_;refine r_load ?_;refine r_own (i:=2) (hq:=(cV (hc:=λ w1 hw=>own_c n w1))) (h:=λ x5=>?_);refine r_ownF (i:=3) (hq:=(c0 (V:=.bool) (hc:=λ w1 hw=>ndEq_c (hr.keep0 hw.st) (hr.keep0 hw.st).own))) (h:=λ x6 h6=>?_);refine r_not ?_;refine r_fin ?_;refine kif (λ c7=>?_) (λ c7=>?_);·refine J10 ?_;refine k_rv Tryz.results144 (λ w hw=>?_);refine⟨_,rfl,?_,hw.done⟩;(simp_all[NdValid];done)
 ·refine J16 ?_;refine J24 ?_;refine J64 ?_;(refine lcs 11 (λ g11=>?_) (λ g11=>?_)<;>refine Ka1 ?_);all_goals (refine J89 ?_;refine j_move ?_)
  all_goals (first|refine j_un ?_|(refine lcs 16 (λ g16=>?_) (λ g16=>?_)<;>refine Ka1 ?_))
  all_goals (refine J89 ?_;refine l_nil ?_)
  all_goals
  refine kif (λ c20=>?_) (λ c20=>?_)
  ·all_goals refine J10 ?_
   all_goals refine k_rv Tryz.results144 (λ w hw=>?_);refine⟨_,rfl,?_,hw.done⟩;(simp_all[NdValid];omega)
  ·try exact nv c20
   all_goals (refine J16 ?_;refine J24 ?_;refine Kd2 ?_;refine J62 ?_;refine J62 ?_;refine J62 ?_;refine J62 ?_;refine k_block ?_;refine J62 ?_;refine J62 ?_;refine J62 ?_;refine k_seq ?_;refine k_seq ?_;refine J39 ?_)
   all_goals
    refine kif (λ c23=>?_) (λ c23=>?_);·refine k_exit rfl ?_;refine k_seq ?_;refine J10 ?_;refine k_rv Tryz.results144 (λ w hw=>?_);refine⟨_,rfl,?_,hw.done⟩;(simp_all[NdValid];done)
    ·refine J16 ?_;refine J39 ?_;refine kif (λ c25=>?_) (λ c25=>?_);·refine k_exit rfl ?_;refine J72 ?_;refine j_geq ?_;refine J1 ?_;refine k_rv Tryz.results144 (λ w hw=>?_);refine⟨_,rfl,?_,hw.done⟩;(simp_all[NdValid];done)
     ·refine J16 ?_;refine J39 ?_;refine kif (λ c27=>?_) (λ c27=>?_)
      ·refine k_exit rfl ?_;refine k_seq ?_;refine k_seq ?_;refine k_dp [(0,[]),(1,[]),(2,[]),(3,[]),(4,[]),(5,[1]),(6,[]),(7,[]),(8,[]),(9,[]),(10,[]),(11,[]),(12,[])] ?_;refine J15 ?_;refine r_len ?_;refine J15 ?_;refine r_own (i:=5) (hq:=(cV (hc:=λ w1 hw=>count_c n.bm w1))) (h:=λ x47=>?_);refine r_eql ?_;refine r_move ?_;(refine rcs 49 (λ g49=>?_) (λ g49=>?_)<;>(first|refine r_un ?_|(refine r_fieldAddr ?_)));all_goals ((first|refine r_un ?_|(refine r_load ?_));(first|refine r_un ?_|(refine r_ownF (i:=10) (hq:=(c0 (V:=.bool) (hc:=λ w1 hw=>by rw[e1];exact allNodes_c (hr.br.keep0 hw.st) hr.brS))) (h:=λ x52 h52=>?_)));refine r_pick ?_;refine J7 ?_)
       all_goals
       refine k_rv Tryz.results144 (λ w hw=>?_);refine⟨_,rfl,?_,hw.done⟩;(simp_all[NdValid];done)
      ·refine J16 ?_;refine J39 ?_;refine kif (λ c29=>?_) (λ c29=>?_);·refine J84 ?_;refine J72 ?_;refine j_lenStr ?_;refine j_leq ?_;refine J1 ?_;refine k_rv Tryz.results144 (λ w hw=>?_);refine⟨_,rfl,?_,hw.done⟩;(simp_all[NdValid];omega)
       ·refine J16 ?_;refine J39 ?_;refine kif (λ c31=>?_) (λ c31=>?_);·refine k_exit rfl ?_;refine J72 ?_;refine j_lenStr ?_;refine j_leq ?_;refine J1 ?_;refine k_rv Tryz.results144 (λ w hw=>?_);refine⟨_,rfl,?_,hw.done⟩;(simp_all[NdValid];omega)
        ·refine J16 ?_;refine J39 ?_;refine kif (λ c33=>?_) (λ c33=>?_)
         ·refine k_exit rfl ?_;refine J72 ?_;refine j_len ?_;refine j_geq ?_;refine j_move ?_;(refine lcs 62 (λ g62=>?_) (λ g62=>?_)<;>refine Ka1 ?_);all_goals (refine Ka2 ?_;(first|refine j_un ?_|(refine j_yes ?_;refine j_ownF (c0 (V:=.bool) (hc:=λ w1 hw=>by rw[e2];exact prValid_c (hr.pr.keep0 hw.st) hr.prS)) (λ x65 h65=>?_)));refine Ka4 ?_)
          all_goals (first|refine j_un ?_|(refine lcs 67 (λ g67=>?_) (λ g67=>?_)<;>refine Ka1 ?_))
          all_goals (refine Ka2 ?_;(first|refine j_un ?_|(refine j_yes ?_;refine j_ownF (c0 (V:=.bool) (hc:=λ w1 hw=>by rw[e2];exact shortKeys_c (hr.pr.keep0 hw.st) hr.prS)) (λ x70 h70=>?_)));refine Kc6 ?_)
          all_goals
          refine k_rv Tryz.results144 (λ w hw=>?_);refine⟨_,rfl,?_,hw.done⟩;first|(simp_all[NdValid];done)|(simp_all[NdValid];omega)
         ·refine J16 ?_;refine J39 ?_;refine kif (λ c35=>?_) (λ c35=>?_)
          ·refine k_exit rfl ?_;refine J24 ?_;refine J64 ?_;(refine lcs 75 (λ g75=>?_) (λ g75=>?_)<;>refine Ka1 ?_);all_goals (refine J89 ?_;refine l_nil ?_)
           all_goals
           refine kif (λ c79=>?_) (λ c79=>?_)
           ·all_goals refine J10 ?_
            all_goals refine k_rv Tryz.results144 (λ w hw=>?_);refine⟨_,rfl,?_,hw.done⟩;(simp_all[NdValid];omega)
           ·try exact nv c79
            all_goals (refine J34 ?_;refine J72 ?_;refine j_geq ?_;refine J1 ?_)
            all_goals refine k_rv Tryz.results144 (λ w hw=>?_);refine⟨_,rfl,?_,hw.done⟩;(simp_all[NdValid];done)
          ·refine k_skip ?_;refine J39 ?_;refine kif (λ c37=>?_) (λ c37=>?_);·refine k_exit rfl ?_;refine J72 ?_;refine j_geq ?_;refine J1 ?_;refine k_rv Tryz.results144 (λ w hw=>?_);refine⟨_,rfl,?_,hw.done⟩;(simp_all[NdValid];done)
           ·refine k_skip ?_;refine k_exit rfl ?_;refine J10 ?_;refine k_rv Tryz.results144 (λ w hw=>?_);refine⟨_,rfl,?_,hw.done⟩;(simp_all[NdValid];done)
end
end Go.Proofs.YtdnklbipddigbaaGreat
namespace Go.Ct
open Go Go.RowKit
section
def hasI(n:Nat)(i:Int):Bool:=decide (0<=i)&&(decide (i<64)&&n.testBit i.toNat)
theorem hasI_lo(n:Nat){i:Int}(h:i<0):hasI n i=false:=by simp[hasI];omega
theorem hasI_hi(n:Nat){i:Int}(h:64<=i):hasI n i=false:=by simp[hasI];omega
theorem hasI_in(n:Nat){i:Int}(h0:0<=i)(h1:i<64):hasI n i=n.testBit i.toNat:=by simp[hasI,h0,h1]
theorem has_raw{n:Nat}(hn:n<18446744073709551616){i:Int}(h0:0<=i)(h1:i<64):(rAnd .u64 (rShr .u64 (n:Int) i) 1==1)=hasI n i:=by obtain⟨k,rfl⟩:=Int.eq_ofNat_of_zero_le h0;rw[hasI_in n h0 h1,rShr_nat (by omega)];have h2:rAnd .u64 ((n >>> k:Nat):Int) 1=(((n >>> k) &&& 1:Nat):Int):=rAnd_nat (Nat.lt_of_le_of_lt (Nat.shiftRight_le _ _) hn) (m:=1) (by decide);rw[h2];simp only[Int.toNat_natCast,Nat.testBit,Nat.and_comm 1];rw[Nat.and_one_is_mod];rcases Nat.mod_two_eq_zero_or_one (n >>> k) with h|h<;>rw[h]<;>rfl
def posN(n:Nat)(i:Int):Nat:=cnt n (min i.toNat 64)
def withI(n:Nat)(i:Int):Nat:=if 0<=i/\i<64 then n ||| 2^i.toNat else n
def withoutI(n:Nat)(i:Int):Nat:=if 0<=i/\i<64 then n ^^^ (n &&& 2^i.toNat) else n
theorem with_raw{n:Nat}(hn:n<18446744073709551616){i:Int}(h0:0<=i)(h1:i<64):rOr .u64 (n:Int) (rShl .u64 1 i)=((withI n i:Nat):Int):=by obtain⟨k,rfl⟩:=Int.eq_ofNat_of_zero_le h0;have hp:=Nat.pow_lt_pow_right (a:=2) (by decide) (show k<64 by omega);rw[rShl_one (by omega),rOr_nat hn (by omega),withI,if_pos ⟨h0,h1⟩];rfl
theorem withI_lt{n:Nat}(hn:n<18446744073709551616)(i:Int):withI n i<18446744073709551616:=by
 unfold withI;split;·rename_i h;have hp:=Nat.pow_lt_pow_right (a:=2) (by decide) (show i.toNat<64 by omega);exact Nat.or_lt_two_pow (n:=64) hn hp
 ·exact hn
end
end Go.Ct
namespace Go.Proofs.YtdnklbipddigbaaGreat
open Go.RowKit Go.Ct
section
theorem refHas_c{n:Nat}(hn:n<18446744073709551616)(i:Int)(w:World):Calls Tryz.prog 183 #[.int .u64 (n:Int),.int .i64 i] w λ e w'=>e=.returned (.bool (hasI n i))/\St w [] [] w':=by
 refine enter Tryz.func183 Tryz.ntmps183 rfl rfl (SF.s0 w) ?_;simp only[mkS];refine J10 ?_;refine J2 ?_;refine j_geq ?_;refine j_move ?_;(refine lcs 7 (λ g7=>?_) (λ g7=>?_)<;>refine Ka0 ?_);all_goals (refine J41 ?_;refine j_move ?_)
 all_goals (first|refine j_un ?_|(refine lcs 11 (λ g11=>?_) (λ g11=>?_)<;>refine Ka0 ?_))
 all_goals (refine Ka0 ?_;(first|refine j_un ?_|(refine j_yes ?_;refine j_convert ?_));(first|refine j_un ?_|(refine j_yes ?_;refine j_shr ?_));(first|refine j_un ?_|(refine j_yes ?_;refine j_and ?_));refine J12 ?_;refine J1 ?_)
 all_goals
 refine k_rv Tryz.results183 (λ w hw=>?_);first|(rw[hasI_lo n (by omega)];exact⟨rfl,hw.done⟩)|(rw[hasI_hi n (by omega)];exact⟨rfl,hw.done⟩)|(rw[<- has_raw hn (by omega) (by omega)];exact⟨rfl,hw.done⟩)
theorem refPos_c{n:Nat}(hn:n<18446744073709551616)(i:Int)(w:World):Calls Tryz.prog 195 #[.int .u64 (n:Int),.int .i64 i] w λ e w'=>e=.returned (.int .i64 ((posN n i:Nat):Int))/\St w [] [] w':=by
 refine enter Tryz.func195 Tryz.ntmps195 rfl rfl (SF.s0 w) ?_;simp only[mkS];refine J10 ?_;refine J75 ?_;refine J69 ?_;refine k_loopC [5,6,7,8,9,10,11,12,13,14,15,16,17,18,19,20] (λ k=>[(5,.int .i64 ((cnt n k:Nat):Int)),(6,.int .i64 ((k:Nat):Int))]) (λ k=>k<=64/\(k:Int)<=max i 0) (λ k=>64-k) (0) (⟨by decide,by omega⟩) ?_ (λ k f hx=>?_);·repeat (first|exact knows_nil _|refine knows_cons (by exact rfl) ?_)
 dsimp only[mkU,List.map,List.cons_append,List.nil_append];have hcl:=cnt_le n k;refine Ke4 ?_;(refine lcs 9 (λ g9=>?_) (λ g9=>?_)<;>refine Ka0 ?_);all_goals (refine Ka0 ?_;refine J41 ?_;refine l_nil ?_)
 all_goals
 refine kif (λ c13=>?_) (λ c13=>?_)
 ·try exact nv c13
  all_goals (refine J37 ?_;refine J11 ?_;refine j_own (cV (hc:=λ w1 hw=>refHas_c hn (k:Int) w1)) (λ x18=>?_);refine l_nil ?_)
  all_goals
   refine kif (λ c18=>?_) (λ c18=>?_)
   ·refine J70 ?_;refine Kb5 ?_;refine k_roundC (k+1) ?_ ?_ ?_;·omega
    ·repeat' (first|exact knows_nil _|refine knows_cons ?_ ?_)
     all_goals (first|exact rfl|(rw[hasI_in n (by omega) (by omega),Int.toNat_natCast] at *;conv=>{lhs;whnf};congr 2;simp only[cnt];simp_all;done))
    ·omega
   ·refine Kd1 ?_;refine k_roundC (k+1) ?_ ?_ ?_;·omega
    ·repeat' (first|exact knows_nil _|refine knows_cons ?_ ?_)
     all_goals (first|exact rfl|(rw[hasI_in n (by omega) (by omega),Int.toNat_natCast] at *;conv=>{lhs;whnf};congr 2;simp only[cnt];simp_all;done))
    ·omega
 ·all_goals (refine k_exit rfl ?_;refine Kb2 ?_)
  all_goals
   refine k_rv Tryz.results195 (λ w hw=>?_);have:posN n i=cnt n k:=by unfold posN;congr 1;omega
   rw[this];exact⟨rfl,hw.done⟩
theorem refCount_c{n:Nat}(hn:n<18446744073709551616)(w:World):Calls Tryz.prog 156 #[.int .u64 (n:Int)] w λ e w'=>e=.returned (.int .i64 ((cnt n 64:Nat):Int))/\St w [] [] w':=by refine enter Tryz.func156 Tryz.ntmps156 rfl rfl (SF.s0 w) ?_;simp only[mkS];refine J10 ?_;refine J2 ?_;refine j_own (cV (hc:=λ w1 hw=>refPos_c hn 64 w1)) (λ x4=>?_);refine J1 ?_;refine k_rv Tryz.results156 (λ w hw=>?_);exact⟨rfl,hw.done⟩
theorem refWith_c{n:Nat}(hn:n<18446744073709551616)(i:Int)(w:World):Calls Tryz.prog 242 #[.int .u64 (n:Int),.int .i64 i] w λ e w'=>e=.returned (.int .u64 ((withI n i:Nat):Int))/\St w [] [] w':=by
 refine enter Tryz.func242 Tryz.ntmps242 rfl rfl (SF.s0 w) ?_;simp only[mkS];refine Kc2 ?_;refine J64 ?_;(refine lcs 7 (λ g7=>?_) (λ g7=>?_)<;>refine Ka0 ?_);all_goals (refine Ka6 ?_)
 all_goals
 refine kif (λ c10=>?_) (λ c10=>?_)
 ·all_goals (refine Kb2 ?_)
  all_goals refine k_rv Tryz.results242 (λ w hw=>?_);(rw[show withI n i=n by unfold withI;rw[if_neg (by omega)]];exact⟨rfl,hw.done⟩)
 ·try exact nv c10
  all_goals (refine J58 ?_;refine j_convert ?_;refine j_shl ?_;refine j_or ?_;refine J1 ?_)
  all_goals refine k_rv Tryz.results242 (λ w hw=>?_);(rw[<- with_raw hn (by omega) (by omega)];exact⟨rfl,hw.done⟩)
end
end Go.Proofs.YtdnklbipddigbaaGreat
namespace Go.Ct
open Go Go.RowKit
section
def mOf(b:Nat)(xs:List Int)(k:Nat):Option Int:=if b.testBit k=true then some (xs.getD (cnt b k) 0) else none
def bOf(m:Nat->Option Int):Nat->Nat
 | 0=>0
 | k+1=>if(m k).isSome=true then bOf m k ||| 2^k else bOf m k
def lOf(m:Nat->Option Int):Nat->List Int
 | 0=>[]
 | k+1=>lOf m k++(m k).toList
def upd(m:Nat->Option Int)(i:Nat)(o:Option Int)(k:Nat):Option Int:=if k=i then o else m k
structure BV(b:Nat)(xs:List Int):Prop where
 lt:b<18446744073709551616
 len:xs.length=cnt b 64
 pos:∀i,i<xs.length->1<=xs.getD i 0
theorem bOf_bit(m:Nat->Option Int)(j:Nat):∀k,(bOf m k).testBit j=(decide (j<k)&&(m j).isSome)
 | 0=>by simp[bOf]
 | k+1=>by
  have ih:=bOf_bit m j k;simp only[bOf];by_cases hjk:j=k
  ·subst hjk;by_cases h:(m j).isSome=true;·rw[if_pos h,Nat.testBit_or,Nat.testBit_two_pow];simp[h]
   ·rw[if_neg h,ih];simp at h;simp[h]
  ·have h2:(2^k).testBit j=false:=by rw[Nat.testBit_two_pow];exact decide_eq_false (λ h=>hjk h.symm)
   split;·rw[Nat.testBit_or,ih,h2,Bool.or_false];congr 1;exact decide_eq_decide.2 (by omega)
   ·rw[ih];congr 1;exact decide_eq_decide.2 (by omega)
theorem bOf_lt(m:Nat->Option Int):∀k,bOf m k<2^k
 | 0=>by simp[bOf]
 | k+1=>by
  have ih:=bOf_lt m k;have h2:2^(k+1)=2^k+2^k:=by rw[Nat.pow_succ];omega
  simp only[bOf];split;·refine Nat.or_lt_two_pow (by omega) ?_;have:=Nat.two_pow_pos k;omega
  ·omega
theorem getD_memI{xs:List Int}{i:Nat}(h:i<xs.length):xs.getD i 0∈xs:=by rw[gdg,List.getElem?_eq_getElem h];exact List.getElem_mem h
theorem of_congr{m m':Nat->Option Int}:∀n,(∀k,k<n->m k=m' k)->bOf m n=bOf m' n/\lOf m n=lOf m' n
 | 0,_=>⟨rfl,rfl⟩
 | n+1,h=>by obtain⟨h1,h2⟩:=of_congr n λ k hk=>h k (by omega);simp only[bOf,lOf,h1,h2,h n (by omega),and_self]
theorem cnt_mono(b:Nat)(k:Nat):∀d,cnt b k<=cnt b (k+d)
 | 0=>Nat.le_refl _
 | d+1=>by have:=cnt_mono b k d;rw[<- Nat.add_assoc];simp only[cnt];omega
theorem cnt_lt{b k n:Nat}(h:k<n)(hb:b.testBit k=true):cnt b k<cnt b n:=by obtain⟨d,rfl⟩:=Nat.exists_eq_add_of_le (Nat.succ_le_of_lt h);have:=cnt_mono b (k+1) d;simp only[cnt,hb,if_true] at this;exact this
theorem lOf_mOf{b:Nat}{xs:List Int}(h:xs.length=cnt b 64):∀k,k<=64->lOf (mOf b xs) k=xs.take (cnt b k)
 | 0,_=>by simp[lOf,cnt]
 | k+1,hk=>by
  have ih:=lOf_mOf h k (by omega);simp only[lOf,ih,mOf,cnt];split;·rename_i hb;have:=cnt_lt (n:=64) (by omega) hb;rw[List.take_add_one,Option.toList,gdg,List.getElem?_eq_getElem (by omega)];rfl
  ·simp
theorem of_mOf{b:Nat}{xs:List Int}(h:BV b xs):bOf (mOf b xs) 64=b/\lOf (mOf b xs) 64=xs:=by
 refine⟨Nat.eq_of_testBit_eq λ j=>?_,?_⟩
 ·rw[bOf_bit];by_cases hj:j<64;·rw[decide_eq_true hj,Bool.true_and];unfold mOf;cases hb:b.testBit j<;>simp
  ·rw[decide_eq_false hj,Bool.false_and];exact(Nat.testBit_lt_two_pow (Nat.lt_of_lt_of_le h.lt (Nat.pow_le_pow_right (n:=2) (by decide) (show 64<=j by omega)))).symm
 ·rw[lOf_mOf h.len 64 (Nat.le_refl _),<- h.len,List.take_length]
theorem cnt_more{b b' i:Nat}(h:b.testBit i=false)(hb:∀j,j<64->b'.testBit j=(b.testBit j||decide (j=i))):∀k,k<=64->cnt b' k=cnt b k+if i<k then 1 else 0
 | 0,_=>rfl
 | k+1,hk=>by
  have ih:=cnt_more h hb k (by omega);simp only[cnt,ih,hb k (by omega)];by_cases hki:k=i;·subst hki;simp[h]
  ·have:decide (k=i)=false:=decide_eq_false hki;rw[this,Bool.or_false];have e:(i<k+1)↔(i<k):=by omega
   simp only[e];omega
def insL(xs:List Int)(p:Nat)(r:Int):List Int:=xs.take p++r::xs.drop p
def updL(xs:List Int)(p:Nat)(r:Int):List Int:=xs.take p++r::xs.drop (p+1)
def remL(xs:List Int)(p:Nat):List Int:=xs.take p++xs.drop (p+1)
theorem insL_len{xs:List Int}{p:Nat}(hp:p<=xs.length)(r:Int):(insL xs p r).length=xs.length+1:=by simp[insL];omega
theorem updL_len{xs:List Int}{p:Nat}(hp:p<xs.length)(r:Int):(updL xs p r).length=xs.length:=by simp[updL];omega
theorem remL_len{xs:List Int}{p:Nat}(hp:p<xs.length):(remL xs p).length+1=xs.length:=by simp[remL];omega
theorem insL_at{xs:List Int}{p:Nat}(hp:p<=xs.length)(r:Int)(q:Nat):(insL xs p r).getD q 0=if q<p then xs.getD q 0 else if q=p then r else xs.getD (q-1) 0:=by
 simp only[insL,gdg];by_cases h1:q<p;·rw[if_pos h1,List.getElem?_append_left (by simp;omega),List.getElem?_take_of_lt h1]
 ·rw[if_neg h1,List.getElem?_append_right (by simp;omega)];have:(xs.take p).length=p:=by simp;omega
  rw[this];by_cases h2:q=p;·subst h2;simp
  ·obtain⟨d,hd⟩:∃d,q-p=d+1:=⟨q-p-1,by omega⟩;rw[if_neg h2,hd,List.getElem?_cons_succ,List.getElem?_drop];congr 2;omega
theorem updL_at{xs:List Int}{p:Nat}(hp:p<xs.length)(r:Int)(q:Nat):(updL xs p r).getD q 0=if q=p then r else xs.getD q 0:=by
 simp only[updL,gdg];by_cases h1:q<p;·rw[if_neg (by omega),List.getElem?_append_left (by simp;omega),List.getElem?_take_of_lt h1]
 ·rw[List.getElem?_append_right (by simp;omega)];have:(xs.take p).length=p:=by simp;omega
  rw[this];by_cases h2:q=p;·subst h2;simp
  ·obtain⟨d,hd⟩:∃d,q-p=d+1:=⟨q-p-1,by omega⟩;rw[if_neg h2,hd,List.getElem?_cons_succ,List.getElem?_drop];congr 2;omega
theorem remL_at{xs:List Int}{p:Nat}(hp:p<xs.length)(q:Nat):(remL xs p).getD q 0=if q<p then xs.getD q 0 else xs.getD (q+1) 0:=by
 simp only[remL,gdg];by_cases h1:q<p;·rw[if_pos h1,List.getElem?_append_left (by simp;omega),List.getElem?_take_of_lt h1]
 ·rw[if_neg h1,List.getElem?_append_right (by simp;omega)];have:(xs.take p).length=p:=by simp;omega
  rw[this,List.getElem?_drop];congr 2;omega
theorem pos_of_at{xs ys:List Int}(h:∀i,i<xs.length->1<=xs.getD i 0)(hy:∀j,j<ys.length->1<=ys.getD j 0∨∃i,i<xs.length/\ys.getD j 0=xs.getD i 0):∀j,j<ys.length->1<=ys.getD j 0:=λ j hj=>by
 rcases hy j hj with h1|⟨i,hi,he⟩;·exact h1
 ·rw[he];exact h i hi
section
variable{b i:Nat}{xs:List Int}{r:Int}
theorem with_bit(b i:Nat)(j:Nat):(b ||| 2^i).testBit j=(b.testBit j||decide (j=i)):=by rw[Nat.testBit_or,Nat.testBit_two_pow];congr 1;exact decide_eq_decide.2 eq_comm
theorem without_bit(b i:Nat)(j:Nat):(b ^^^ (b &&& 2^i)).testBit j=(b.testBit j&&!decide (j=i)):=by rw[Nat.testBit_xor,Nat.testBit_and,Nat.testBit_two_pow];have:decide (i=j)=decide (j=i):=decide_eq_decide.2 eq_comm;rw[this];cases b.testBit j<;>cases decide (j=i)<;>rfl
theorem ins_bv(h:BV b xs)(hi:i<64)(hb:b.testBit i=false)(hr:1<=r):BV (b ||| 2^i) (insL xs (cnt b i) r)/\∀k,k<64->mOf (b ||| 2^i) (insL xs (cnt b i) r) k=upd (mOf b xs) i (some r) k:=by
 have hc:=cnt_more hb (λ j _=>with_bit b i j)
 have hp:cnt b i<=xs.length:=by obtain⟨d,hd⟩:=Nat.exists_eq_add_of_le (Nat.le_of_lt hi);rw[h.len,hd];exact cnt_mono b i d
 refine⟨⟨Nat.or_lt_two_pow (n:=64) h.lt (Nat.pow_lt_pow_right (a:=2) (by decide) hi),?_,pos_of_at h.pos λ j hj=>?_⟩,λ k hk=>?_⟩;·rw[insL_len hp,hc 64 (Nat.le_refl _),if_pos hi,h.len]
 ·rw[insL_len hp] at hj;rw[insL_at hp];by_cases h1:j<cnt b i;·rw[if_pos h1];exact .inr ⟨j,by omega,rfl⟩
  ·rw[if_neg h1];by_cases h2:j=cnt b i;·rw[if_pos h2];exact .inl hr
   ·rw[if_neg h2];exact .inr ⟨j-1,by omega,rfl⟩
 ·simp only[mOf,upd];rw[with_bit,hc k (by omega),insL_at hp];by_cases hki:k=i;·subst hki;simp
  ·rw[if_neg hki,decide_eq_false hki,Bool.or_false];by_cases hbk:b.testBit k=true
   ·rw[if_pos hbk,if_pos hbk];congr 1;by_cases hlt:k<i;·have:=cnt_lt hlt hbk;rw[if_neg (show ¬i<k by omega),if_pos (by omega)];rfl
    ·have:cnt b i<=cnt b k:=by obtain⟨d,hd⟩:=Nat.exists_eq_add_of_le (show i<=k by omega);rw[hd];exact cnt_mono b i d
     rw[if_pos (show i<k by omega),if_neg (by omega),if_neg (by omega)];rfl
   ·rw[if_neg hbk,if_neg hbk]
theorem upd_bv(h:BV b xs)(hi:i<64)(hb:b.testBit i=true)(hr:1<=r):BV b (updL xs (cnt b i) r)/\∀k,k<64->mOf b (updL xs (cnt b i) r) k=upd (mOf b xs) i (some r) k:=by
 have hp:cnt b i<xs.length:=by rw[h.len];exact cnt_lt hi hb
 refine⟨⟨h.lt,by rw[updL_len hp,h.len],pos_of_at h.pos λ j hj=>?_⟩,λ k hk=>?_⟩
 ·rw[updL_len hp] at hj;rw[updL_at hp];by_cases h2:j=cnt b i;·rw[if_pos h2];exact .inl hr
  ·rw[if_neg h2];exact .inr ⟨j,hj,rfl⟩
 ·simp only[mOf,upd];rw[updL_at hp];by_cases hki:k=i;·subst hki;rw[if_pos hb,if_pos rfl,if_pos rfl]
  ·rw[if_neg hki];by_cases hbk:b.testBit k=true
   ·rw[if_pos hbk,if_pos hbk,if_neg];rcases Nat.lt_or_gt_of_ne hki with hlt|hlt;·have:=cnt_lt hlt hbk;omega
    ·have:=cnt_lt hlt hb;omega
   ·rw[if_neg hbk,if_neg hbk]
theorem rem_bv(h:BV b xs)(hi:i<64)(hb:b.testBit i=true):BV (b ^^^ (b &&& 2^i)) (remL xs (cnt b i))/\∀k,k<64->mOf (b ^^^ (b &&& 2^i)) (remL xs (cnt b i)) k=upd (mOf b xs) i none k:=by
 have hp:cnt b i<xs.length:=by rw[h.len];exact cnt_lt hi hb
 have hb':(b ^^^ (b &&& 2^i)).testBit i=false:=by rw[without_bit];simp
 have hc:=cnt_more (b':=b) hb' (λ j _=>by
  rw[without_bit];by_cases hji:j=i;·subst hji;simp[hb]
  ·rw[decide_eq_false hji];simp)
 refine⟨⟨Nat.xor_lt_two_pow (n:=64) h.lt (Nat.lt_of_le_of_lt Nat.and_le_left h.lt),?_,pos_of_at h.pos λ j hj=>?_⟩,λ k hk=>?_⟩;·have:=remL_len hp;have:=hc 64 (Nat.le_refl _);rw[if_pos hi] at this;have:=h.len;omega
 ·have:=remL_len hp;rw[remL_at hp];by_cases h1:j<cnt b i;·rw[if_pos h1];exact .inr ⟨j,by omega,rfl⟩
  ·rw[if_neg h1];exact .inr ⟨j+1,by omega,rfl⟩
 ·simp only[mOf,upd];have hck:=hc k (by omega);rw[without_bit,remL_at hp];by_cases hki:k=i;·subst hki;simp
  ·rw[if_neg hki,decide_eq_false hki,Bool.not_false,Bool.and_true];by_cases hbk:b.testBit k=true
   ·rw[if_pos hbk,if_pos hbk];congr 1;by_cases hlt:k<i;·have:=cnt_lt hlt hbk;rw[if_neg (show ¬i<k by omega)] at hck;rw[if_pos (by omega),hck];rfl
    ·have:=cnt_lt (show i<k by omega) hb;rw[if_pos (show i<k by omega)] at hck;rw[if_neg (by omega),hck]
   ·rw[if_neg hbk,if_neg hbk]
end
end
section
variable{w0 w:World}{M:List Nat}{H:List (Nat×Obj)}{A F:Fr}{O:List Ow}
end
end Go.Ct
namespace Go.Proofs.YtdnklbipddigbaaGreat
open Go.RowKit Go.Ct
section
theorem ndValid_c3{n:Nd}{xs:List Int}{ys:List Pr}(h:n.kind=3)(hv:NdValid n xs ys):(xs.length:Int)=rOnes n.bm/\Pos xs:=by obtain⟨_,_,_,_,hv⟩:=hv;rcases hv with h1|⟨h1,_⟩|⟨_,h2,h3⟩|⟨h1|h1,_⟩|⟨h1,_⟩|⟨h1,_⟩|⟨h1,_⟩;all_goals first|exact⟨h2,h3⟩|(rw[h] at h1;exact absurd h1 (by decide))
end
end Go.Proofs.YtdnklbipddigbaaGreat
