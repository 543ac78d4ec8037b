/- Merged. -/
import Derived.Test.YtdnklbipddigbaaGreatGTape
import Derived.Test.YtdnklbipddigbaaGreatJoin
set_option linter.unusedSimpArgs false
set_option linter.unusedVariables false
namespace Go.Proofs.YtdnklbipddigbaaGreat
open Go.RowKit Go.Ct
section
def updR(b:Nat)(xs:List Int)(i:Nat)(r:Int):Nat->Option Int:=upd (mOf b xs) i (if 0<r then some r else none)
theorem bOf_some{m:Nat->Option Int}{k:Nat}{v:Int}(h:m k=some v)(hk:k<64):withI (bOf m k) (k:Int)=bOf m (k+1)/\lOf m k++[v]=lOf m (k+1):=by simp only[bOf,lOf,h,withI,Option.isSome_some,if_true,Option.toList,Int.toNat_natCast,and_true];exact if_pos (by omega)
theorem bOf_none{m:Nat->Option Int}{k:Nat}(h:m k=none):bOf m k=bOf m (k+1)/\lOf m k=lOf m (k+1):=by simp[bOf,lOf,h]
theorem bOf_lt64(m:Nat->Option Int){k:Nat}(hk:k<=64):bOf m k<18446744073709551616:=Nat.lt_of_lt_of_le (bOf_lt m k) (Nat.pow_le_pow_right (n:=2) (by decide) hk)
theorem lOf_len(m:Nat->Option Int):∀k,(lOf m k).length<=k
 | 0=>Nat.le_refl _
 | k+1=>by have:=lOf_len m k;simp only[lOf,List.length_append];cases m k<;>simp<;>omega
section
variable{n:Nd}{xs:List Int}{ys:List Pr}{w:World}{b:Nat}
theorem lkO_mOf(hcv:CV n xs ys){k:Nat}(hk:k<64):lkO n xs ys b (k:Int)=mOf b xs k:=by
 unfold lkO mOf;have h1:hasI b (k:Int)=b.testBit k:=by rw[hasI_in b (by omega) (by omega),Int.toNat_natCast]
 have h2:posN b (k:Int)=cnt b k:=by unfold posN;rw[Int.toNat_natCast,Nat.min_eq_left (by omega)]
 rw[h1,h2];by_cases h:b.testBit k=true<;>simp[h,hcv]
theorem updR_ne{i k:Nat}{r:Int}(hcv:CV n xs ys)(hk:k<64)(h:(k:Int)≠(i:Int)):updR b xs i r k=lkO n xs ys b (k:Int):=by rw[lkO_mOf hcv hk];exact if_neg (by omega)
theorem updR_eq{i k:Nat}{r:Int}(h:(k:Int)=(i:Int)):updR b xs i r k=if 0<r then some r else none:=if_pos (by omega)
theorem some_of{o:Option Int}(h:o.isSome=true):o=some (o.getD 0):=by cases o<;>simp_all
theorem none_of{o:Option Int}(h:o.isSome=false):o=none:=by cases o<;>simp_all
set_option maxHeartbeats 800000 in
theorem build_c(i:Nat)(r:Int)(_hi:i<64)(hcv:CV n xs ys)(hb:n.bm=(b:Int))(hb2:b<18446744073709551616)(hr:Rep w n xs ys) :
    Calls Tryz.prog 232 #[n.v,.int .i64 (i:Int),.int .i64 r] w λ e w'=>∃x:Option Addr×Nat,e=.returned (cn (bOf (updR b xs i r) 64) (lOf (updR b xs i r) 64) x).v/\(lOf (updR b xs i r) 64).length<=x.2/\SF w [] [] [] [(x.1,refsC (lOf (updR b xs i r) 64))] [] w':=by
     have e1:=hr.brN;refine enter Tryz.func232 Tryz.ntmps232 rfl rfl (SF.s2 hr.br hr.pr) ?_;simp only[mkS];simp only[Nd.v,Nd.cells];refine J0 ?_;refine j_box (λ x3=>?_);refine j_alloc (λ x6=>?_);refine l_nil ?_;refine J0 ?_;refine j_build ?_;refine j_alloc (λ x7=>?_);refine J5 ?_;refine k_seq ?_;refine J69 ?_;refine k_lp [8,9,10,12,13,14,15,16,17,18,19,20,21,22,23,24,25,26,27,28,29,30,31,32,33,34,35,36,37,38,39] (λ y:Nat×Option Addr×Nat=>[(8,.int .i64 ((y.1:Nat):Int))]) (λ y=>y.1<=64/\(lOf (updR b xs i r) y.1).length<=y.2.2) (λ y=>[(x7,.cells ⟨[.int .i64 3,.int .i64 0,.int .i64 0,.int .u64 ((bOf (updR b xs i r) y.1:Nat):Int),.slice y.2.1 (lOf (updR b xs i r) y.1).length y.2.2,.int .u64 0,.string ⟨#[]⟩,.int .u64 0,.slice none 0 0,.int .i64 0,.int .i64 0,.int .i64 0,.int .i64 0,.int .i64 0]⟩ 45),(x6,.cells ⟨Nd.zero.cells⟩ 45),(x3,.cells ⟨n.cells⟩ 45)]) (λ _=>_) (λ y=>[⟨y.2.1,refsC (lOf (updR b xs i r) y.1),y.2.2,28,1⟩]) (λ y=>64-y.1) ((0,none,0)) (⟨Nat.zero_le _,Nat.le_refl _⟩) (λ y f hx=>?_) (hw0:=λ w hw=>(hw.nilOwn 28 1).back);dsimp only[mkU,List.map,List.cons_append,List.nil_append];have hll:=lOf_len (updR b xs i r) y.1;refine J32 ?_;refine J47 ?_;refine kif (λ c13=>?_) (λ c13=>?_)
     ·refine J37 ?_;refine J71 ?_;refine j_own (cV (hc:=λ w1 hw=>refLookup_c (n:=n) (y.1:Int) hb hb2 (hr.keep0 hw.done))) (λ x19=>?_);refine j_move ?_;refine l_quiet (o_extract rf rfl) rfl ?_;refine l_quiet (o_extract rf rfl) rfl ?_;refine J8 ?_;refine J65 ?_;refine J50 ?_;refine kif (λ c24=>?_) (λ c24=>?_)
      ·refine J76 ?_;refine j_gtr ?_;refine J8 ?_;refine J2 ?_;refine l_nil ?_;refine kif (λ c28=>?_) (λ c28=>?_)
       ·first
         | have hm:updR b xs i r y.1=some r:=by rw[updR_eq c24,if_pos (by omega)]
         | have hm:updR b xs i r y.1=some ((lkO n xs ys b (y.1:Int)).getD 0):=by rw[updR_ne hcv (by omega) c24];exact some_of c28
        refine k_joinG [29,30,31,32,33,34,35,36,37,38,39] (λ z:Nat×Option Addr×Nat=>[]) (λ z=>(lOf (updR b xs i r) y.1).length+1<=z.2.2) (λ z=>[(x7,.cells ⟨[.int .i64 3,.int .i64 0,.int .i64 0,.int .u64 ((bOf (updR b xs i r) (y.1+1):Nat):Int),.slice z.2.1 (lOf (updR b xs i r) (y.1+1)).length z.2.2,.int .u64 0,.string ⟨#[]⟩,.int .u64 0,.slice none 0 0,.int .i64 0,.int .i64 0,.int .i64 0,.int .i64 0,.int .i64 0]⟩ 45),(x6,.cells ⟨Nd.zero.cells⟩ 45),(x3,.cells ⟨n.cells⟩ 45)]) (λ z=>[]) (λ z=>[⟨z.2.1,refsC (lOf (updR b xs i r) (y.1+1)),z.2.2,28,1⟩]) (by decide) (λ _=>by exact rfl) ?_ (λ z f hx=>?_)
        ·refine k_drawF (.one 0 [] (.one 1 [] (.one 2 [] (.one 4 [] (.one 5 [] (.one 6 [] (.two 3 [5] (.one 9 [] (.one 7 [1,5] (.one 8 [] (.one 10 [] (.one 11 [] (.one 12 [] .nil)))))) 0 [] (.two 7 [1,5] (.one 3 [5] (.one 9 [] (.one 8 [] (.one 10 [] (.one 11 [] (.one 12 [] .nil)))))) 0 [] .nil)))))))) ?_;refine Kf7 ?_;refine Kf7 ?_;refine r_many (E:=[3,7]) (by decide +kernel) ((.cons ?_ (.cons ?_ .nil)));·refine s_own (i:=3) (hq:=(cV (hc:=λ w1 hw=>refWith_c (bOf_lt64 (updR b xs i r) (k:=y.1) (by omega)) (y.1:Int) w1))) (h:=λ x32=>?_);refine r_fieldAddr ?_;refine r_buildSlice (h:=λ x36=>?_);((refine r_append (h:=λ x37=>?_);try (refine r_fact (λ h37=>?_))));refine J51 ?_;refine J19 ?_;refine k_rj ((0,x37)) ?_ (hw1:=λ w hw=>by obtain⟨k1,k2⟩:=bOf_some hm (by omega);rw[k1,show(lOf (updR b xs i r) y.1).length+1=(lOf (updR b xs i r) (y.1+1)).length by rw[<- k2];simp,k2] at hw;exact hw.back);·exact h37
         ·refine s_buildSlice (i:=7) (h:=λ x36=>?_);refine r_own (i:=3) (hq:=(cV (hc:=λ w1 hw=>refWith_c (bOf_lt64 (updR b xs i r) (k:=y.1) (by omega)) (y.1:Int) w1))) (h:=λ x32=>?_);refine r_fieldAddr ?_;((refine r_append (h:=λ x37=>?_);try (refine r_fact (λ h37=>?_))));refine J51 ?_;refine J19 ?_;refine k_rj ((0,x37)) ?_ (hw1:=λ w hw=>by obtain⟨k1,k2⟩:=bOf_some hm (by omega);rw[k1,show(lOf (updR b xs i r) y.1).length+1=(lOf (updR b xs i r) (y.1+1)).length by rw[<- k2];simp,k2] at hw;exact hw.back);·exact h37
        dsimp only[mkU,List.map,List.cons_append,List.nil_append];refine Kb5 ?_;refine k_rd ((by exact(y.1+1,z.2))) ?_ (hw1:=λ w hw=>by exact hw.back)
        ·first
          | exact⟨by omega,by have k2:=(bOf_some hm (by omega)).2;simp only[];rw[<- k2,List.length_append];exact hx⟩
          | exact⟨by omega,by simp only[];rw[<- (bOf_none hm).2];exact hx.2⟩
       ·have hm:updR b xs i r y.1=none:=by
         first
          | (rw[updR_eq c24,if_neg (by omega)];done)
          | (rw[updR_ne hcv (by omega) c24];exact none_of c28)
        refine Kd1 ?_;refine k_rd ((by exact(y.1+1,y.2))) ?_ (hw1:=λ w hw=>by(rw[(bOf_none hm).1,(bOf_none hm).2] at hw;exact hw.back))
        ·first
          | exact⟨by omega,by have k2:=(bOf_some hm (by omega)).2;simp only[];rw[<- k2,List.length_append];exact hx⟩
          | exact⟨by omega,by simp only[];rw[<- (bOf_none hm).2];exact hx.2⟩
      ·refine Ka8 ?_;refine l_nil ?_;refine kif (λ c28=>?_) (λ c28=>?_)
       ·first
         | have hm:updR b xs i r y.1=some r:=by rw[updR_eq c24,if_pos (by omega)]
         | have hm:updR b xs i r y.1=some ((lkO n xs ys b (y.1:Int)).getD 0):=by rw[updR_ne hcv (by omega) c24];exact some_of c28
        refine k_joinG [29,30,31,32,33,34,35,36,37,38,39] (λ z:Nat×Option Addr×Nat=>[]) (λ z=>(lOf (updR b xs i r) y.1).length+1<=z.2.2) (λ z=>[(x7,.cells ⟨[.int .i64 3,.int .i64 0,.int .i64 0,.int .u64 ((bOf (updR b xs i r) (y.1+1):Nat):Int),.slice z.2.1 (lOf (updR b xs i r) (y.1+1)).length z.2.2,.int .u64 0,.string ⟨#[]⟩,.int .u64 0,.slice none 0 0,.int .i64 0,.int .i64 0,.int .i64 0,.int .i64 0,.int .i64 0]⟩ 45),(x6,.cells ⟨Nd.zero.cells⟩ 45),(x3,.cells ⟨n.cells⟩ 45)]) (λ z=>[]) (λ z=>[⟨z.2.1,refsC (lOf (updR b xs i r) (y.1+1)),z.2.2,28,1⟩]) (by decide) (λ _=>by exact rfl) ?_ (λ z f hx=>?_)
        ·refine k_drawF (.one 0 [] (.one 1 [] (.one 2 [] (.one 4 [] (.one 5 [] (.one 6 [] (.two 3 [5] (.one 9 [] (.one 7 [1,5] (.one 8 [] (.one 10 [] (.one 11 [] (.one 12 [] .nil)))))) 0 [] (.two 7 [1,5] (.one 3 [5] (.one 9 [] (.one 8 [] (.one 10 [] (.one 11 [] (.one 12 [] .nil)))))) 0 [] .nil)))))))) ?_;refine Kf7 ?_;refine Kf7 ?_;refine r_many (E:=[3,7]) (by decide +kernel) ((.cons ?_ (.cons ?_ .nil)));·refine s_own (i:=3) (hq:=(cV (hc:=λ w1 hw=>refWith_c (bOf_lt64 (updR b xs i r) (k:=y.1) (by omega)) (y.1:Int) w1))) (h:=λ x32=>?_);refine r_fieldAddr ?_;refine r_buildSlice (h:=λ x36=>?_);((refine r_append (h:=λ x37=>?_);try (refine r_fact (λ h37=>?_))));refine J51 ?_;refine J19 ?_;refine k_rj ((0,x37)) ?_ (hw1:=λ w hw=>by obtain⟨k1,k2⟩:=bOf_some hm (by omega);rw[k1,show(lOf (updR b xs i r) y.1).length+1=(lOf (updR b xs i r) (y.1+1)).length by rw[<- k2];simp,k2] at hw;exact hw.back);·exact h37
         ·refine s_buildSlice (i:=7) (h:=λ x36=>?_);refine r_own (i:=3) (hq:=(cV (hc:=λ w1 hw=>refWith_c (bOf_lt64 (updR b xs i r) (k:=y.1) (by omega)) (y.1:Int) w1))) (h:=λ x32=>?_);refine r_fieldAddr ?_;((refine r_append (h:=λ x37=>?_);try (refine r_fact (λ h37=>?_))));refine J51 ?_;refine J19 ?_;refine k_rj ((0,x37)) ?_ (hw1:=λ w hw=>by obtain⟨k1,k2⟩:=bOf_some hm (by omega);rw[k1,show(lOf (updR b xs i r) y.1).length+1=(lOf (updR b xs i r) (y.1+1)).length by rw[<- k2];simp,k2] at hw;exact hw.back);·exact h37
        dsimp only[mkU,List.map,List.cons_append,List.nil_append];refine Kb5 ?_;refine k_rd ((by exact(y.1+1,z.2))) ?_ (hw1:=λ w hw=>by exact hw.back)
        ·first
          | exact⟨by omega,by have k2:=(bOf_some hm (by omega)).2;simp only[];rw[<- k2,List.length_append];exact hx⟩
          | exact⟨by omega,by simp only[];rw[<- (bOf_none hm).2];exact hx.2⟩
       ·have hm:updR b xs i r y.1=none:=by
         first
          | (rw[updR_eq c24,if_neg (by omega)];done)
          | (rw[updR_ne hcv (by omega) c24];exact none_of c28)
        refine Kd1 ?_;refine k_rd ((by exact(y.1+1,y.2))) ?_ (hw1:=λ w hw=>by(rw[(bOf_none hm).1,(bOf_none hm).2] at hw;exact hw.back))
        ·first
          | exact⟨by omega,by have k2:=(bOf_some hm (by omega)).2;simp only[];rw[<- k2,List.length_append];exact hx⟩
          | exact⟨by omega,by simp only[];rw[<- (bOf_none hm).2];exact hx.2⟩
     ·refine k_exit rfl ?_;refine J25 ?_;refine J5 ?_;refine k_rt Tryz.results232 (λ w hw=>?_);have hy:y.1=64:=by omega
      rw[hy] at hw hx ⊢;generalize bOf (updR b xs i r) 64=B at hw ⊢;generalize lOf (updR b xs i r) 64=L at hw hx ⊢;exact⟨y.2,rfl,hx.2,SF.frz hw.finH⟩
end
end
section
theorem of_eq{m:Nat->Option Int}{b:Nat}{xs:List Int}(h:BV b xs/\∀k,k<64->mOf b xs k=m k):bOf m 64=b/\lOf m 64=xs:=by obtain⟨h1,h2⟩:=of_congr 64 λ k hk=>(h.2 k hk).symm;obtain⟨h3,h4⟩:=of_mOf h.1;exact⟨h1.trans h3,h2.trans h4⟩
theorem withI_nat{k:Nat}(b:Nat)(hk:k<64):withI b (k:Int)=b ||| 2^k:=by unfold withI;rw[if_pos (by omega),Int.toNat_natCast]
theorem withoutI_nat{k:Nat}(b:Nat)(hk:k<64):withoutI b (k:Int)=b ^^^ (b &&& 2^k):=by unfold withoutI;rw[if_pos (by omega),Int.toNat_natCast]
theorem posN_nat{k:Nat}(b:Nat)(hk:k<64):posN b (k:Int)=cnt b k:=by unfold posN;rw[Int.toNat_natCast,Nat.min_eq_left (by omega)]
theorem hasI_nat{k:Nat}(b:Nat)(hk:k<64):hasI b (k:Int)=b.testBit k:=by rw[hasI_in b (by omega) (by omega),Int.toNat_natCast]
theorem build_ins{b k:Nat}{xs:List Int}{r:Int}(h:BV b xs)(hk:k<64)(hb:hasI b (k:Int)=false)(hr:1<=r):bOf (updR b xs k r) 64=withI b (k:Int)/\lOf (updR b xs k r) 64=insL xs (posN b (k:Int)) r:=by rw[hasI_nat b hk] at hb;rw[withI_nat b hk,posN_nat b hk];unfold updR;rw[if_pos (by omega)];exact of_eq (ins_bv h hk hb hr)
theorem build_upd{b k:Nat}{xs:List Int}{r:Int}(h:BV b xs)(hk:k<64)(hb:hasI b (k:Int)=true)(hr:1<=r):bOf (updR b xs k r) 64=b/\lOf (updR b xs k r) 64=updL xs (posN b (k:Int)) r:=by rw[hasI_nat b hk] at hb;rw[posN_nat b hk];unfold updR;rw[if_pos (by omega)];exact of_eq (upd_bv h hk hb hr)
theorem build_rem{b k:Nat}{xs:List Int}(h:BV b xs)(hk:k<64)(hb:hasI b (k:Int)=true):bOf (updR b xs k 0) 64=withoutI b (k:Int)/\lOf (updR b xs k 0) 64=remL xs (posN b (k:Int)):=by rw[hasI_nat b hk] at hb;rw[withoutI_nat b hk,posN_nat b hk];unfold updR;rw[if_neg (by omega)];exact of_eq (rem_bv h hk hb)
section
variable{n:Nd}{xs:List Int}{ys:List Pr}{w:World}{b:Nat}
theorem lkO_some{i:Int}(h:(lkO n xs ys b i).isSome=true):CV n xs ys/\hasI b i=true:=by
 unfold lkO at h;split at h;·assumption
 ·cases h
theorem lkO_none{i:Int}(h:(lkO n xs ys b i).isSome=false)(hcv:CV n xs ys):hasI b i=false:=by
 unfold lkO at h;split at h;·cases h
 ·rename_i hn;cases hh:hasI b i with
  | false=>rfl
  | true=>exact absurd ⟨hcv,hh⟩ hn
theorem refInserted_c(i r:Int)(hb:n.bm=(b:Int))(hb2:b<18446744073709551616)(hr:Rep w n xs ys):Calls Tryz.prog 237 #[n.v,.int .i64 i,.int .i64 r] w (CRes w (inO n xs ys b i r)):=by
 refine enter Tryz.func237 Tryz.ntmps237 rfl rfl (SF.s2 hr.br hr.pr) ?_;simp only[mkS];simp only[Nd.v,Nd.cells];refine J0 ?_;refine j_box (λ x3=>?_);refine j_alloc (λ x6=>?_);refine J27 ?_;refine J71 ?_;refine j_own (cV (hc:=λ w1 hw=>refLookup_c (n:=n) i hb hb2 (hr.keep0 hw.done))) (λ x13=>?_);refine j_move ?_;refine l_quiet (o_extract rf rfl) rfl ?_;refine l_quiet (o_extract rf rfl) rfl ?_;refine J8 ?_;refine J25 ?_;refine j_ownF (c0 (V:=.bool) (hc:=λ w1 hw=>cis_c (n:=n) hb hb2 (hr.keep0 hw.done))) (λ x17 h17=>?_);refine J59 ?_;(refine lcs 19 (λ g19=>?_) (λ g19=>?_)<;>refine Ka0 ?_);all_goals (refine Ka4 ?_)
 all_goals (first|refine j_un ?_|(refine lcs 22 (λ g22=>?_) (λ g22=>?_)<;>refine Ka0 ?_))
 all_goals (refine J41 ?_;refine j_move ?_)
 all_goals (first|refine j_un ?_|(refine lcs 26 (λ g26=>?_) (λ g26=>?_)<;>refine Ka0 ?_))
 all_goals (refine Ke7 ?_)
 all_goals (first|refine j_un ?_|(refine lcs 30 (λ g30=>?_) (λ g30=>?_)<;>refine Ka0 ?_))
 all_goals (refine J41 ?_;refine l_nil ?_)
 all_goals
 refine kif (λ c33=>?_) (λ c33=>?_)
 ·all_goals (refine J0 ?_;refine Kd9 ?_)
  all_goals refine k_rt Tryz.results237 (λ w hw=>?_);rw[show inO n xs ys b i r=none from if_neg (by rintro ⟨k1,⟨k2,k3⟩,k4,k5⟩;clear hw;first|omega|exact absurd (lkO_some g22).2 (by simp[k5])|exact absurd (h17.2 k1) (by simp_all))];exact⟨(none,0),rfl,Nat.le_refl _,(hw.fnil none).fin⟩
 ·try exact nv c33
  all_goals have hcv:=h17.1 (by simpa using g19);have hh:=lkO_none g22 hcv;obtain⟨k,rfl⟩:=Int.eq_ofNat_of_zero_le (show 0<=i by omega);have hk:=build_ins (hcv.bv hb hb2) (k:=k) (by omega) hh (r:=r) (by omega)
  all_goals (refine Kc5 ?_;refine J35 ?_;refine j_ownF (cF (hc:=λ w1 hw=>by have:=build_c (w:=w1) k r (by omega) hcv hb hb2 (hr.keep0 hw.done);rw[hk.1,hk.2] at this;exact this)) (λ x38 h38=>?_);refine J46 ?_)
  all_goals refine k_rt Tryz.results237 (λ w hw=>?_);rw[show inO n xs ys b (k:Int) r=some (withI b (k:Int),insL xs (posN b (k:Int)) r) from if_pos ⟨hcv,⟨by omega,by omega⟩,by omega,hh⟩];exact⟨x38,rfl,h38,hw.fin⟩
theorem refUpdated_c(i r:Int)(hb:n.bm=(b:Int))(hb2:b<18446744073709551616)(hr:Rep w n xs ys):Calls Tryz.prog 212 #[n.v,.int .i64 i,.int .i64 r] w (CRes w (upO n xs ys b i r)):=by
 refine enter Tryz.func212 Tryz.ntmps212 rfl rfl (SF.s2 hr.br hr.pr) ?_;simp only[mkS];simp only[Nd.v,Nd.cells];refine J0 ?_;refine j_box (λ x3=>?_);refine j_alloc (λ x6=>?_);refine J27 ?_;refine J71 ?_;refine j_own (cV (hc:=λ w1 hw=>refLookup_c (n:=n) i hb hb2 (hr.keep0 hw.done))) (λ x13=>?_);refine j_move ?_;refine l_quiet (o_extract rf rfl) rfl ?_;refine l_quiet (o_extract rf rfl) rfl ?_;refine J8 ?_;refine J2 ?_;refine J59 ?_;(refine lcs 18 (λ g18=>?_) (λ g18=>?_)<;>refine Ka0 ?_);all_goals (refine J41 ?_;refine l_nil ?_)
 all_goals
 refine kif (λ c21=>?_) (λ c21=>?_)
 ·all_goals (refine J0 ?_;refine Kd9 ?_)
  all_goals refine k_rt Tryz.results212 (λ w hw=>?_);rw[show upO n xs ys b i r=none from if_neg (by rintro ⟨k1,k4,k5⟩;clear hw;first|omega|exact absurd (lkO_none (by simpa using g18) k1) (by simp[k5]))];exact⟨(none,0),rfl,Nat.le_refl _,(hw.fnil none).fin⟩
 ·try exact nv c21
  all_goals have hc:=lkO_some (by simpa using g18);have hcv:=hc.1;have hh:=hc.2;obtain⟨q1,q2,_,_⟩:=hasI_elim hh;obtain⟨k,rfl⟩:=Int.eq_ofNat_of_zero_le q1;have hk:=build_upd (hcv.bv hb hb2) (k:=k) (by omega) hh (r:=r) (by omega)
  all_goals (refine Kc5 ?_;refine J35 ?_;refine j_ownF (cF (hc:=λ w1 hw=>by have:=build_c (w:=w1) k r (by omega) hcv hb hb2 (hr.keep0 hw.done);rw[hk.1,hk.2] at this;exact this)) (λ x26 h26=>?_);refine J46 ?_)
  all_goals refine k_rt Tryz.results212 (λ w hw=>?_);rw[show upO n xs ys b (k:Int) r=some (b,updL xs (posN b (k:Int)) r) from if_pos ⟨hcv,by omega,hh⟩];exact⟨x26,rfl,h26,hw.fin⟩
theorem refRemoved_c(i:Int)(hb:n.bm=(b:Int))(hb2:b<18446744073709551616)(hr:Rep w n xs ys):Calls Tryz.prog 240 #[n.v,.int .i64 i] w (CRes w (reO n xs ys b i)):=by
 refine enter Tryz.func240 Tryz.ntmps240 rfl rfl (SF.s2 hr.br hr.pr) ?_;simp only[mkS];simp only[Nd.v,Nd.cells];refine J0 ?_;refine j_box (λ x2=>?_);refine j_alloc (λ x4=>?_);refine J27 ?_;refine J71 ?_;refine j_own (cV (hc:=λ w1 hw=>refLookup_c (n:=n) i hb hb2 (hr.keep0 hw.done))) (λ x11=>?_);refine j_move ?_;refine l_quiet (o_extract rf rfl) rfl ?_;refine l_quiet (o_extract rf rfl) rfl ?_;refine J8 ?_;refine J2 ?_;refine J33 ?_;refine kif (λ c15=>?_) (λ c15=>?_);·refine J0 ?_;refine Kd9 ?_;refine k_rt Tryz.results240 (λ w hw=>?_);rw[show reO n xs ys b i=none from if_neg (by rintro ⟨k1,k5⟩;clear hw;exact absurd (lkO_none c15 k1) (by simp[k5]))];exact⟨(none,0),rfl,Nat.le_refl _,(hw.fnil none).fin⟩
 ·have hc:=lkO_some c15;have hcv:=hc.1;have hh:=hc.2;obtain⟨q1,q2,_,_⟩:=hasI_elim hh;obtain⟨k,rfl⟩:=Int.eq_ofNat_of_zero_le q1;have hk:=build_rem (hcv.bv hb hb2) (k:=k) (by omega) hh;refine k_skip ?_;refine J71 ?_;refine j_ownF (cF (hc:=λ w1 hw=>by have:=build_c (w:=w1) k 0 (by omega) hcv hb hb2 (hr.keep0 hw.done);rw[hk.1,hk.2] at this;exact this)) (λ x19 h19=>?_);refine J46 ?_;refine k_rt Tryz.results240 (λ w hw=>?_);rw[show reO n xs ys b (k:Int)=some (withoutI b (k:Int),remL xs (posN b (k:Int))) from if_pos ⟨hcv,hh⟩];exact⟨x19,rfl,h19,hw.fin⟩
end
end
end Go.Proofs.YtdnklbipddigbaaGreat
