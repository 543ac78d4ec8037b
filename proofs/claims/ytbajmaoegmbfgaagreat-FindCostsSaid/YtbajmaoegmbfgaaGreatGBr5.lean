/- Merged. -/
import Derived.Test.YtbajmaoegmbfgaaGreatGBit2
import Derived.Test.YtbajmaoegmbfgaaGreatGJoin
import Derived.Test.YtbajmaoegmbfgaaGreatGAr9
import Derived.Test.YtbajmaoegmbfgaaGreatGPa1
set_option linter.unusedSimpArgs false
set_option linter.unusedVariables false
namespace Go.Proofs.YtbajmaoegmbfgaaGreat
open Go.Proofs.Tryz
open Go.RowKit Go.Ct
section
def gR(b:Nat)(xs:List Int)(i:Nat)(r:Int):Nat->Option Int:=Lw (nY b xs) i (if 0<r then some r else none)
theorem pE{m:Nat->Option Int}{k:Nat}{v:Int}(h:m k=some v)(hk:k<64):dX (B6 m k) (k:Int)=B6 m (k+1)/\oC m k++[v]=oC m (k+1):=by simp only[B6,oC,h,dX,Option.isSome_some,if_true,Option.toList,Int.toNat_natCast,and_true];exact if_pos (by omega)
theorem oP{m:Nat->Option Int}{k:Nat}(h:m k=none):B6 m k=B6 m (k+1)/\oC m k=oC m (k+1):=by simp[B6,oC,h]
theorem Bu(m:Nat->Option Int){k:Nat}(hk:k<=64):B6 m k<18446744073709551616:=Nat.lt_of_lt_of_le (sb m k) (Nat.pow_le_pow_right (n:=2) (by decide) hk)
theorem Xz(m:Nat->Option Int):∀k,(oC m k).length<=k
 | 0=>Nat.le_refl _
 | k+1=>by have:=Xz m k;simp only[oC,List.length_append];cases m k<;>simp<;>omega
section
variable{n:Nd}{xs:List Int}{ys:List Pr}{w:World}{b:Nat}
variable{k i:Nat}{r:Int}{o:Option Int}
theorem Yc(hcv:CV n xs ys)(hk:k<64):Ew n xs ys b (k:Int)=nY b xs k:=by
 unfold Ew nY;have h1:oL b (k:Int)=b.testBit k:=by rw[tZ b (by omega) (by omega),Int.toNat_natCast]
 have h2:mH b (k:Int)=fP b k:=by unfold mH;rw[Int.toNat_natCast,Nat.min_eq_left (by omega)]
 rw[h1,h2];by_cases h:b.testBit k=true<;>simp[h,hcv]
theorem Fj(hcv:CV n xs ys)(hk:k<64)(h:(k:Int)≠(i:Int)):gR b xs i r k=Ew n xs ys b (k:Int):=by rw[Yc hcv hk];exact if_neg (by omega)
theorem Fq(h:(k:Int)=(i:Int)):gR b xs i r k=if 0<r then some r else none:=if_pos (by omega)
theorem W1(h:o.isSome=true):o=some (o.getD 0):=by cases o<;>simp_all
theorem W3(h:o.isSome=false):o=none:=by cases o<;>simp_all
set_option maxHeartbeats 800000 in
theorem M8(i:Nat)(r:Int)(_hi:i<64)(hcv:CV n xs ys)(hb:n.bm=(b:Int))(hb2:b<18446744073709551616)(hr:sE w n xs ys) :
    Calls prog 244 #[n.v,.int .i64 (i:Int),.int .i64 r] w λ e w'=>∃x:Option Addr×Nat,e=.returned (cn (B6 (gR b xs i r) 64) (oC (gR b xs i r) 64) x).v/\(oC (gR b xs i r) 64).length<=x.2/\SF w [] [] [] [(x.1,aH (oC (gR b xs i r) 64))] [] w':=by
     have e1:=hr.brN;refine enter func244 ntmps244 rfl rfl (SF.s2 hr.br hr.pr) ?_;simp only[cC]
     simp only[Nd.v,Nd.cells];refine K1g ?_;intro x3;refine aJ (λ x6=>?_);refine aG ?_;refine J0 ?_;refine bN ?_;refine aJ (λ x7=>?_);refine J5 ?_;refine aV ?_;refine E9 ?_;refine nB [8,9,10,12,13,14,15,16,17,18,19,20,21,22,23,24,25,26,27,28,29,30,31,32,33,34,35,36,37,38,39] (λ y:Nat×Option Addr×Nat=>[(8,.int .i64 ((y.1:Nat):Int))]) (λ y=>y.1<=64/\(oC (gR b xs i r) y.1).length<=y.2.2) (λ y=>[(x7,.cells ⟨[.int .i64 3,.int .i64 0,.int .i64 0,.int .u64 ((B6 (gR b xs i r) y.1:Nat):Int),.slice y.2.1 (oC (gR b xs i r) y.1).length y.2.2,.int .u64 0,.string ⟨#[]⟩,.int .u64 0,.slice none 0 0,.int .i64 0,.int .i64 0,.int .i64 0,.int .i64 0,.int .i64 0]⟩ 47),(x6,.cells ⟨Nd.zero.cells⟩ 47),(x3,.cells ⟨n.cells⟩ 47)]) (λ _=>_) (λ y=>[⟨y.2.1,aH (oC (gR b xs i r) y.1),y.2.2,37,1⟩]) (λ y=>64-y.1) ((0,none,0)) (⟨Nat.zero_le _,Nat.le_refl _⟩) (λ y f hx=>?_) (hw0:=λ w hw=>(hw.kQ 37 1).back);refine K0a ?_;have hll:=Xz (gR b xs i r) y.1;refine kF ?_;refine zR ?_;refine bD (λ c13=>?_) (λ c13=>?_)
     ·refine sG ?_;refine Fa ?_;refine aN (cV (hc:=λ w1 hw=>oM (n:=n) (y.1:Int) hb hb2 (hr.fU hw.done))) (λ x19=>?_);refine K1f ?_;refine Cb ?_;refine tH ?_;refine bD (λ c24=>?_) (λ c24=>?_)
      ·refine Jl ?_;refine En ?_;refine J8 ?_;refine J2 ?_;refine aG ?_;refine bD (λ c28=>?_) (λ c28=>?_)
       ·first
         | have hm:gR b xs i r y.1=some r:=by rw[Fq c24,if_pos (by omega)]
         | have hm:gR b xs i r y.1=some ((Ew n xs ys b (y.1:Int)).getD 0):=by rw[Fj hcv (by omega) c24];exact W1 c28
        refine eY [29,30,31,32,33,34,35,36,37,38,39] (λ z:Nat×Option Addr×Nat=>[]) (λ z=>(oC (gR b xs i r) y.1).length+1<=z.2.2) (λ z=>[(x7,.cells ⟨[.int .i64 3,.int .i64 0,.int .i64 0,.int .u64 ((B6 (gR b xs i r) (y.1+1):Nat):Int),.slice z.2.1 (oC (gR b xs i r) (y.1+1)).length z.2.2,.int .u64 0,.string ⟨#[]⟩,.int .u64 0,.slice none 0 0,.int .i64 0,.int .i64 0,.int .i64 0,.int .i64 0,.int .i64 0]⟩ 47),(x6,.cells ⟨Nd.zero.cells⟩ 47),(x3,.cells ⟨n.cells⟩ 47)]) (λ z=>[]) (λ z=>[⟨z.2.1,aH (oC (gR b xs i r) (y.1+1)),z.2.2,37,1⟩]) (by decide) (λ _=>by exact rfl) ?_ (λ z f hx=>?_)
        ·refine K0p ?_;refine gU (E:=[3,7]) (by decide +kernel) ((.cons ?_ (.cons ?_ .nil)));·refine A4 (i:=3) (hq:=(cV (hc:=λ w1 hw=>nT (Bu (gR b xs i r) (k:=y.1) (by omega)) (y.1:Int) w1))) (h:=λ x32=>?_);refine aX ?_;refine cG (h:=λ x36=>?_);((refine mL (h:=λ x37=>?_);try (refine eL (λ h37=>?_))));refine K0h ?_;·exact h37
         ·refine mS (i:=7) (h:=λ x36=>?_);refine dD (i:=3) (hq:=(cV (hc:=λ w1 hw=>nT (Bu (gR b xs i r) (k:=y.1) (by omega)) (y.1:Int) w1))) (h:=λ x32=>?_);refine aX ?_;((refine mL (h:=λ x37=>?_);try (refine eL (λ h37=>?_))));refine K0h ?_;·exact h37
        refine K0a ?_;refine Kb2 ?_;refine iX ((by exact(y.1+1,z.2))) ?_ (hw1:=λ w hw=>by exact hw.back)
        ·first
          | exact⟨by omega,by have k2:=(pE hm (by omega)).2;simp only[];rw[<- k2,List.length_append];exact hx⟩
          | exact⟨by omega,by simp only[];rw[<- (oP hm).2];exact hx.2⟩
       ·have hm:gR b xs i r y.1=none:=by
         first
          | (rw[Fq c24,if_neg (by omega)];done)
          | (rw[Fj hcv (by omega) c24];exact W3 c28)
        refine Kc5 ?_;refine iX ((by exact(y.1+1,y.2))) ?_ (hw1:=λ w hw=>by(rw[(oP hm).1,(oP hm).2] at hw;exact hw.back))
        ·first
          | exact⟨by omega,by have k2:=(pE hm (by omega)).2;simp only[];rw[<- k2,List.length_append];exact hx⟩
          | exact⟨by omega,by simp only[];rw[<- (oP hm).2];exact hx.2⟩
      ·refine aW ?_;refine J2 ?_;refine aG ?_;refine bD (λ c28=>?_) (λ c28=>?_)
       ·first
         | have hm:gR b xs i r y.1=some r:=by rw[Fq c24,if_pos (by omega)]
         | have hm:gR b xs i r y.1=some ((Ew n xs ys b (y.1:Int)).getD 0):=by rw[Fj hcv (by omega) c24];exact W1 c28
        refine eY [29,30,31,32,33,34,35,36,37,38,39] (λ z:Nat×Option Addr×Nat=>[]) (λ z=>(oC (gR b xs i r) y.1).length+1<=z.2.2) (λ z=>[(x7,.cells ⟨[.int .i64 3,.int .i64 0,.int .i64 0,.int .u64 ((B6 (gR b xs i r) (y.1+1):Nat):Int),.slice z.2.1 (oC (gR b xs i r) (y.1+1)).length z.2.2,.int .u64 0,.string ⟨#[]⟩,.int .u64 0,.slice none 0 0,.int .i64 0,.int .i64 0,.int .i64 0,.int .i64 0,.int .i64 0]⟩ 47),(x6,.cells ⟨Nd.zero.cells⟩ 47),(x3,.cells ⟨n.cells⟩ 47)]) (λ z=>[]) (λ z=>[⟨z.2.1,aH (oC (gR b xs i r) (y.1+1)),z.2.2,37,1⟩]) (by decide) (λ _=>by exact rfl) ?_ (λ z f hx=>?_)
        ·refine K0p ?_;refine gU (E:=[3,7]) (by decide +kernel) ((.cons ?_ (.cons ?_ .nil)));·refine A4 (i:=3) (hq:=(cV (hc:=λ w1 hw=>nT (Bu (gR b xs i r) (k:=y.1) (by omega)) (y.1:Int) w1))) (h:=λ x32=>?_);refine aX ?_;refine cG (h:=λ x36=>?_);((refine mL (h:=λ x37=>?_);try (refine eL (λ h37=>?_))));refine K0h ?_;·exact h37
         ·refine mS (i:=7) (h:=λ x36=>?_);refine dD (i:=3) (hq:=(cV (hc:=λ w1 hw=>nT (Bu (gR b xs i r) (k:=y.1) (by omega)) (y.1:Int) w1))) (h:=λ x32=>?_);refine aX ?_;((refine mL (h:=λ x37=>?_);try (refine eL (λ h37=>?_))));refine K0h ?_;·exact h37
        refine K0a ?_;refine Kb2 ?_;refine iX ((by exact(y.1+1,z.2))) ?_ (hw1:=λ w hw=>by exact hw.back)
        ·first
          | exact⟨by omega,by have k2:=(pE hm (by omega)).2;simp only[];rw[<- k2,List.length_append];exact hx⟩
          | exact⟨by omega,by simp only[];rw[<- (oP hm).2];exact hx.2⟩
       ·have hm:gR b xs i r y.1=none:=by
         first
          | (rw[Fq c24,if_neg (by omega)];done)
          | (rw[Fj hcv (by omega) c24];exact W3 c28)
        refine Kc5 ?_;refine iX ((by exact(y.1+1,y.2))) ?_ (hw1:=λ w hw=>by(rw[(oP hm).1,(oP hm).2] at hw;exact hw.back))
        ·first
          | exact⟨by omega,by have k2:=(pE hm (by omega)).2;simp only[];rw[<- k2,List.length_append];exact hx⟩
          | exact⟨by omega,by simp only[];rw[<- (oP hm).2];exact hx.2⟩
     ·refine bS rfl ?_;refine nG ?_;refine J5 ?_;refine aY results244 (λ w hw=>?_);have hy:y.1=64:=by omega
      rw[hy] at hw hx ⊢;generalize B6 (gR b xs i r) 64=B at hw ⊢;generalize oC (gR b xs i r) 64=L at hw hx ⊢;exact⟨y.2,rfl,hx.2,SF.frz hw.bA⟩
end
end
section
variable{b k:Nat}{xs:List Int}{r:Int}
theorem of_eq{m:Nat->Option Int}(h:BV b xs/\∀k,k<64->nY b xs k=m k):B6 m 64=b/\oC m 64=xs:=by obtain⟨h1,h2⟩:=Q5 64 λ k hk=>(h.2 k hk).symm;obtain⟨h3,h4⟩:=Uu h.1;exact⟨h1.trans h3,h2.trans h4⟩
theorem qQ(b:Nat)(hk:k<64):dX b (k:Int)=b ||| 2^k:=by unfold dX;rw[if_pos (by omega),Int.toNat_natCast]
theorem uL(b:Nat)(hk:k<64):wM b (k:Int)=b ^^^ (b &&& 2^k):=by unfold wM;rw[if_pos (by omega),Int.toNat_natCast]
theorem oO(b:Nat)(hk:k<64):mH b (k:Int)=fP b k:=by unfold mH;rw[Int.toNat_natCast,Nat.min_eq_left (by omega)]
theorem rA(b:Nat)(hk:k<64):oL b (k:Int)=b.testBit k:=by rw[tZ b (by omega) (by omega),Int.toNat_natCast]
theorem Zm(h:BV b xs)(hk:k<64)(hb:oL b (k:Int)=false)(hr:1<=r):B6 (gR b xs k r) 64=dX b (k:Int)/\oC (gR b xs k r) 64=uY xs (mH b (k:Int)) r:=by rw[rA b hk] at hb;rw[qQ b hk,oO b hk];unfold gR;rw[if_pos (by omega)];exact of_eq (Ix h hk hb hr)
theorem Zd(h:BV b xs)(hk:k<64)(hb:oL b (k:Int)=true)(hr:1<=r):B6 (gR b xs k r) 64=b/\oC (gR b xs k r) 64=rT xs (mH b (k:Int)) r:=by rw[rA b hk] at hb;rw[oO b hk];unfold gR;rw[if_pos (by omega)];exact of_eq (Un h hk hb hr)
theorem ad(h:BV b xs)(hk:k<64)(hb:oL b (k:Int)=true):B6 (gR b xs k 0) 64=wM b (k:Int)/\oC (gR b xs k 0) 64=tD xs (mH b (k:Int)):=by rw[rA b hk] at hb;rw[uL b hk,oO b hk];unfold gR;rw[if_neg (by omega)];exact of_eq (U7 h hk hb)
section
variable{n:Nd}{xs:List Int}{ys:List Pr}{w:World}{b:Nat}
theorem Be{i:Int}(h:(Ew n xs ys b i).isSome=true):CV n xs ys/\oL b i=true:=by
 unfold Ew at h;split at h;·assumption
 ·cases h
theorem Ga{i:Int}(h:(Ew n xs ys b i).isSome=false)(hcv:CV n xs ys):oL b i=false:=by
 unfold Ew at h;split at h;·cases h
 ·rename_i hn;cases hh:oL b i with
  | false=>rfl
  | true=>exact absurd ⟨hcv,hh⟩ hn
theorem Jk(i r:Int)(hb:n.bm=(b:Int))(hb2:b<18446744073709551616)(hr:sE w n xs ys):Calls prog 249 #[n.v,.int .i64 i,.int .i64 r] w (Yy w (lu n xs ys b i r)):=by
 refine enter func249 ntmps249 rfl rfl (SF.s2 hr.br hr.pr) ?_;simp only[cC];simp only[Nd.v,Nd.cells];refine K1g ?_;intro x3;refine aJ (λ x6=>?_);refine jG ?_;refine Fa ?_;refine aN (cV (hc:=λ w1 hw=>oM (n:=n) i hb hb2 (hr.fU hw.done))) (λ x13=>?_);refine K1f ?_;refine nG ?_;refine aD (c0 (V:=.bool) (hc:=λ w1 hw=>ph (n:=n) hb hb2 (hr.fU hw.done))) (λ x17 h17=>?_);refine D5 ?_;(refine eF 19 (λ g19=>?_) (λ g19=>?_)<;>refine Ka0 ?_);all_goals (refine Kb9 ?_)
 all_goals (first|refine aI ?_|(refine eF 22 (λ g22=>?_) (λ g22=>?_)<;>refine Ka0 ?_))
 all_goals (refine yk ?_;refine aA ?_)
 all_goals (first|refine aI ?_|(refine eF 26 (λ g26=>?_) (λ g26=>?_)<;>refine Ka0 ?_))
 all_goals (refine Bf ?_;refine aA ?_)
 all_goals (first|refine aI ?_|(refine eF 30 (λ g30=>?_) (λ g30=>?_)<;>refine Ka0 ?_))
 all_goals (refine yk ?_;refine aG ?_)
 all_goals
 refine bD (λ c33=>?_) (λ c33=>?_)
 ·all_goals (refine J0 ?_;refine bN ?_;refine Fb ?_)
  all_goals refine aY results249 (λ w hw=>?_);rw[show lu n xs ys b i r=none from if_neg (by rintro ⟨k1,⟨k2,k3⟩,k4,k5⟩;clear hw;first|omega|exact absurd (Be g22).2 (by simp[k5])|exact absurd (h17.2 k1) (by simp_all))];exact⟨(none,0),rfl,Nat.le_refl _,(hw.Ot none).fin⟩
 ·try exact nv c33
  all_goals
   have hcv:=h17.1 (by simpa using g19);have hh:=Ga g22 hcv;obtain⟨k,rfl⟩:=Int.eq_ofNat_of_zero_le (show 0<=i by omega)
   have hk:=Zm (hcv.bv hb hb2) (k:=k) (by omega) hh (r:=r) (by omega)
  all_goals (refine aW ?_;refine nG ?_;refine qL ?_;refine aD (cF (hc:=λ w1 hw=>by have:=M8 (w:=w1) k r (by omega) hcv hb hb2 (hr.fU hw.done);rw[hk.1,hk.2] at this;exact this)) (λ x38 h38=>?_);refine Fb ?_)
  all_goals refine aY results249 (λ w hw=>?_);rw[show lu n xs ys b (k:Int) r=some (dX b (k:Int),uY xs (mH b (k:Int)) r) from if_pos ⟨hcv,⟨by omega,by omega⟩,by omega,hh⟩];exact⟨x38,rfl,h38,hw.fin⟩
theorem Oj(i r:Int)(hb:n.bm=(b:Int))(hb2:b<18446744073709551616)(hr:sE w n xs ys):Calls prog 220 #[n.v,.int .i64 i,.int .i64 r] w (Yy w (sm n xs ys b i r)):=by
 refine enter func220 ntmps220 rfl rfl (SF.s2 hr.br hr.pr) ?_;simp only[cC];simp only[Nd.v,Nd.cells];refine K1g ?_;intro x3;refine aJ (λ x6=>?_);refine jG ?_;refine Fa ?_;refine aN (cV (hc:=λ w1 hw=>oM (n:=n) i hb hb2 (hr.fU hw.done))) (λ x13=>?_);refine K1f ?_;refine J2 ?_;refine D5 ?_;(refine eF 18 (λ g18=>?_) (λ g18=>?_)<;>refine Ka0 ?_);all_goals (refine yk ?_;refine aG ?_)
 all_goals
 refine bD (λ c21=>?_) (λ c21=>?_)
 ·all_goals (refine J0 ?_;refine bN ?_;refine Fb ?_)
  all_goals refine aY results220 (λ w hw=>?_);rw[show sm n xs ys b i r=none from if_neg (by rintro ⟨k1,k4,k5⟩;clear hw;first|omega|exact absurd (Ga (by simpa using g18) k1) (by simp[k5]))];exact⟨(none,0),rfl,Nat.le_refl _,(hw.Ot none).fin⟩
 ·try exact nv c21
  all_goals
   have hc:=Be (by simpa using g18);have hcv:=hc.1;have hh:=hc.2;obtain⟨q1,q2,_,_⟩:=sQ hh
   obtain⟨k,rfl⟩:=Int.eq_ofNat_of_zero_le q1;have hk:=Zd (hcv.bv hb hb2) (k:=k) (by omega) hh (r:=r) (by omega)
  all_goals (refine aW ?_;refine nG ?_;refine qL ?_;refine aD (cF (hc:=λ w1 hw=>by have:=M8 (w:=w1) k r (by omega) hcv hb hb2 (hr.fU hw.done);rw[hk.1,hk.2] at this;exact this)) (λ x26 h26=>?_);refine Fb ?_)
  all_goals refine aY results220 (λ w hw=>?_);rw[show sm n xs ys b (k:Int) r=some (b,rT xs (mH b (k:Int)) r) from if_pos ⟨hcv,by omega,hh⟩];exact⟨x26,rfl,h26,hw.fin⟩
theorem Ny(i:Int)(hb:n.bm=(b:Int))(hb2:b<18446744073709551616)(hr:sE w n xs ys):Calls prog 252 #[n.v,.int .i64 i] w (Yy w (sr n xs ys b i)):=by
 refine enter func252 ntmps252 rfl rfl (SF.s2 hr.br hr.pr) ?_;simp only[cC];simp only[Nd.v,Nd.cells];refine K1k ?_;intro x2;refine aJ (λ x4=>?_);refine jG ?_;refine Fa ?_;refine aN (cV (hc:=λ w1 hw=>oM (n:=n) i hb hb2 (hr.fU hw.done))) (λ x11=>?_);refine K1f ?_;refine J2 ?_;refine oD ?_;refine bD (λ c15=>?_) (λ c15=>?_);·refine J0 ?_;refine bN ?_;refine Fb ?_;refine aY results252 (λ w hw=>?_);rw[show sr n xs ys b i=none from if_neg (by rintro ⟨k1,k5⟩;clear hw;exact absurd (Ga c15 k1) (by simp[k5]))];exact⟨(none,0),rfl,Nat.le_refl _,(hw.Ot none).fin⟩
 ·have hc:=Be c15;have hcv:=hc.1;have hh:=hc.2;obtain⟨q1,q2,_,_⟩:=sQ hh
  obtain⟨k,rfl⟩:=Int.eq_ofNat_of_zero_le q1;have hk:=ad (hcv.bv hb hb2) (k:=k) (by omega) hh;refine aW ?_;refine Fa ?_;refine aD (cF (hc:=λ w1 hw=>by have:=M8 (w:=w1) k 0 (by omega) hcv hb hb2 (hr.fU hw.done);rw[hk.1,hk.2] at this;exact this)) (λ x19 h19=>?_);refine Fb ?_;refine aY results252 (λ w hw=>?_);rw[show sr n xs ys b (k:Int)=some (wM b (k:Int),tD xs (mH b (k:Int))) from if_pos ⟨hcv,hh⟩];exact⟨x19,rfl,h19,hw.fin⟩
end
end
end Go.Proofs.YtbajmaoegmbfgaaGreat
namespace Go.Ct
section
def cB(n:Nv):Prop:=n.kind=3∨n.kind=5∨n.kind=6
instance (n:Nv):Decidable (cB n):=by unfold cB;exact inferInstance
def sB(N:List Nv)(cs:List Int)(c:Int):Int:=if(bH N (bJ cs c)).kind=8 then(if bJ cs (bH N (bJ cs c)).status=1 then(bH N (bJ cs c)).new else(bH N (bJ cs c)).bR) else bJ cs c
def lG(N:List Nv)(cs:List Int)(c:Int):Option Int:=if(bH N (sB N cs c)).kind=2 then some (sB N cs c) else none
def wT(N:List Nv)(cs:List Int)(i:Int):Int:=bJ cs (bH N i).main
def oY(N:List Nv)(cs:List Int)(i:Int):Int:=bJ cs (bH N (wT N cs i)).prev
def zB(N:List Nv)(cs:List Int)(i:Int):Int:=if(bH N (oY N cs i)).kind=7 then(bH N (oY N cs i)).bR else oY N cs i
def gZ(N:List Nv)(cs:List Int)(i:Int):Option Int :=
 if(bH N i).kind=2/\cB (bH N (wT N cs i)) then
  if oY N cs i=0 then some (wT N cs i) else if cB (bH N (zB N cs i)) then some (zB N cs i) else none
 else none
def sJ(v:Nv):List Pr:=if v.kind=5 then [(v.key,v.val)] else if v.kind=6 then v.ys else []
def nC(N:List Nv)(f:Int->List Pr):List Int->List Pr
 | []=>[]
 | b::r=>(if(bH N b).kind=4 then [((bH N b).key,(bH N b).val)] else f b)++nC N f r
def Mh(N:List Nv)(cs:List Int):Nat->Int->List Pr
 | 0,_=>[]
 | n+1,i=>match gZ N cs i with
  | none=>[]
  | some m=>sJ (bH N m)++nC N (Mh N cs n) (bH N m).xs
theorem Pq{N:List Nv}{f:Int->List Pr}:∀(a b:List Int),nC N f (a++b)=nC N f a++nC N f b
 | [],b=>rfl
 | x::a,b=>by simp only[List.cons_append,nC,Pq a b,List.append_assoc]
theorem K1{N:List Nv}{cs:List Int}{i m:Int}(h:gZ N cs i=some m):(bH N i).kind=2/\cB (bH N m):=by
 unfold gZ at h;split at h
 ·rename_i h1;split at h;·cases h;exact h1
  split at h;·cases h;exact⟨h1.1,by assumption⟩
  ·cases h
 ·cases h
theorem eQ{N:List Nv}{i:Int}(h:(bH N i).kind≠0):1<=i/\i<=N.length:=by
 unfold bH at h;split at h;·assumption
 ·exact absurd rfl h
end
section
theorem aDJ{L1 L2:List aR}(h:L1.length=L2.length):L1.map aR.c=L2.map aR.c↔∀i,i<L1.length->(L1.getD i aR.zero).c=(L2.getD i aR.zero).c:=by
 constructor
 ·intro e i hi;have h1:(L1.map aR.c)[i]?=(L2.map aR.c)[i]?:=by rw[e]
  rw[List.getElem?_map,List.getElem?_map,List.getElem?_eq_getElem hi,List.getElem?_eq_getElem (h▸hi)] at h1;rw[jA,jA,List.getElem?_eq_getElem hi,List.getElem?_eq_getElem (h▸hi)];simpa using h1
 ·intro e;refine List.ext_getElem? λ i=>?_;rw[List.getElem?_map,List.getElem?_map];by_cases hi:i<L1.length;·have h1:=e i hi;rw[jA,jA,List.getElem?_eq_getElem hi,List.getElem?_eq_getElem (h▸hi)] at h1;rw[List.getElem?_eq_getElem hi,List.getElem?_eq_getElem (h▸hi)];simpa using h1
  ·rw[List.getElem?_eq_none (by omega),List.getElem?_eq_none (by omega)]
end
end Go.Ct
namespace Go.Proofs.YtbajmaoegmbfgaaGreat
open Go.RowKit Go.Ct
section
end
end Go.Proofs.YtbajmaoegmbfgaaGreat
namespace Go.Ct
section
def Nv.nd(v:Nv):Nd:=⟨v.kind,v.gen,v.main,v.bm,none,v.xs.length,0,v.hash,v.key,v.val,none,v.ys.length,0,v.prev,v.bR,v.exp,v.new,v.status⟩
def Nv.dv(v:Nv):aR:=⟨v.nd,v.xs,v.ys⟩
theorem Nv.aEo(v:Nv):v.dv.c=v:=rfl
theorem aCb(N:List Nv):(N.map Nv.dv).map aR.c=N:=by rw[List.map_map];exact(List.map_congr_left (λ v _=>Nv.aEo v)).trans (List.map_id N)
theorem Og{n:Nd}{xs:List Int}{ys:List Pr}:cJ n xs ys↔cJ (n.c xs ys).nd xs ys:=by
 have e:tG n n.own xs (n.jR xs) ys (n.jP ys)↔tG (n.c xs ys).nd (n.c xs ys).nd.own xs ((n.c xs ys).nd.jR xs) ys ((n.c xs ys).nd.jP ys):=by
  rw[xP,xP];have e1:n.own.c (n.jR xs) (n.jP ys)=(n.c xs ys).nd.own.c ((n.c xs ys).nd.jR xs) ((n.c xs ys).nd.jP ys):=by
   have hx:(n.c xs ys).nd.jR xs=n.jR xs:=rfl;have hy:(n.c xs ys).nd.jP ys=n.jP ys:=rfl;have hk:(n.c xs ys).nd.kind=n.kind:=rfl;rw[hx,hy];unfold Nd.own;rw[hk];repeat' split
   all_goals rfl
  rw[e1];exact Iff.rfl
 unfold cJ;rw[e];exact Iff.rfl
theorem aBD{gen:Int}{n:Nat}{u v:aR}(h:u.c=v.c)(hu:nF gen n u):nF gen n v:=by
 have key:∀v:aR,nF gen n v↔nF gen n v.c.dv:=λ v=>by unfold nF;rw[Og (n:=v.nd)];exact Iff.rfl
 rw[key,<- h,<- key];exact hu
theorem uu{m:Nat}{L1 L2:List aR}(h:L1.map aR.c=L2.map aR.c):marks m L1=marks m L2:=by
 have key:∀L:List aR,marks m L=(L.map aR.c).foldl (λ u c=>eU u c.nd) (some (List.replicate m false)):=λ L=>by unfold marks;rw[List.foldl_map];rfl
 rw[key,key,h]
theorem Zj{L1 L2:List aR}{cs:List Int}{gen:Int}(h:L1.map aR.c=L2.map aR.c)(hp:fW L1 cs gen):fW L2 cs gen:=by
 have hl:L1.length=L2.length:=by simpa using congrArg List.length h
 have hi:=(aDJ hl).1 h;have h2:=hp.two;refine⟨by omega,hp.gen0,?_,?_,λ i h=>by have:=hp.cells i h;rwa [hl] at this,λ i h=>?_,by rw[<- uu h];exact hp.marks⟩
 ·have:=congrArg Nv.kind (hi 0 (by omega));exact this.symm.trans hp.m0
 ·have:=congrArg Nv.kind (hi 1 (by omega));exact this.symm.trans hp.m1
 ·have:=hp.nodes i (by omega);rw[<- hl];exact aBD (hi i (by omega)) this
def gL(N:List Nv)(cs:List Int)(gen:Int):Prop:=fW (N.map Nv.dv) cs gen
variable{N:List Nv}{cs:List Int}{gen init:Int}
theorem gL.to(h:gL N cs gen){L:List aR}(hl:L.map aR.c=N):fW L cs gen:=Zj (by rw[aCb,hl]) h
theorem gL.push{n:Nv}(h:gL N cs gen)(hv:nF gen (N.length+1) (dJ n cs.length).dv)(hi:E3 init N.length):gL (N++[dJ n cs.length]) (fJ n.kind cs init) gen:=by
 have hm:(N.map Nv.dv).length=N.length:=by simp
 have:=R6 (v:=(dJ n cs.length).dv) (k:=n.kind) (init:=init) h (by rw[hm];exact hv) (by rw[hm];exact hi) (by
  have e:(dJ n cs.length).dv.nd.kind=n.kind:=rfl;unfold gI fJ;rw[e];by_cases h2:n.kind=2;·right;rw[if_pos h2,if_pos (.inl h2)];exact⟨by show some (if n.kind=2 then _ else _)=_;rw[if_pos h2],rfl⟩
  rw[if_neg h2];by_cases h3:n.kind=3∨n.kind=5∨n.kind=6;·right;rw[if_pos h3,if_pos (by omega)];exact⟨by show some (if n.kind=3∨n.kind=5∨n.kind=6 then _ else _)=_;rw[if_pos h3],rfl⟩
  rw[if_neg h3];by_cases h8:n.kind=8;·right;rw[if_pos h8,if_pos (by omega)];exact⟨by show some (if n.kind=8 then _ else _)=_;rw[if_pos h8],rfl⟩
  ·left;rw[if_neg h8,if_neg (by omega)];exact⟨rfl,rfl⟩)
 unfold gL;rw[List.map_append];exact this
theorem gL.cell(h:gL N cs gen)(hi:E3 init N.length):gL N (cs++[init]) gen:=by
 have hm:(N.map Nv.dv).length=N.length:=by simp
 refine⟨h.two,h.gen0,h.m0,h.m1,λ i hi'=>?_,h.nodes,?_⟩
 ·rw[jA];rw[List.length_append,List.length_cons,List.length_nil] at hi';by_cases hl:i<cs.length;·rw[List.getElem?_append_left hl,<- jA];exact h.cells i hl
  ·rw[List.getElem?_append_right (by omega),show i-cs.length=0 by omega,hm];exact hi
 ·have key:∀(l:List aR) (m:Nat) (u:List Bool),l.foldl (λ u v=>eU u v.nd) (some u)≠none->l.foldl (λ u v=>eU u v.nd) (some (u++[false]))≠none:=by
   intro l;induction l with
   | nil=>intro _ u _ h;cases h
   | cons v l ih=>
    intro m u hu;rw[List.foldl_cons] at hu ⊢;have hnone:∀l:List aR,l.foldl (λ u v=>eU u v.nd) none=none:=λ l=>by
     induction l with
     | nil=>rfl
     | cons v l ih=>exact ih
    cases hc:gI v.nd with
    | none=>rw[show eU (some u) v.nd=some u by simp[eU,hc]] at hu;rw[show eU (some (u++[false])) v.nd=some (u++[false]) by simp[eU,hc]];exact ih m u hu
    | some c=>
     by_cases hc3:1<=c/\c<=u.length/\u.getD (c-1).toNat false=false
     ·obtain⟨c1,c2,c3⟩:=hc3;have hlt:(c-1).toNat<u.length:=by omega
      have e1:(u++[false]).getD (c-1).toNat false=u.getD (c-1).toNat false:=by rw[jA,jA,List.getElem?_append_left hlt]
      have e2:eU (some u) v.nd=some (u.set (c-1).toNat true):=by show(match gI v.nd with|none=>_|some c=>_)=_;rw[hc];exact if_pos ⟨c1,c2,c3⟩
      have e3:eU (some (u++[false])) v.nd=some (u.set (c-1).toNat true++[false]):=by show(match gI v.nd with|none=>_|some c=>_)=_;rw[hc,<- List.set_append_left _ _ hlt];exact if_pos ⟨c1,by rw[List.length_append,List.length_cons,List.length_nil];omega,by rw[e1];exact c3⟩
      rw[e2] at hu;rw[e3];exact ih m _ hu
     ·have e2:eU (some u) v.nd=none:=by show(match gI v.nd with|none=>_|some c=>_)=_;rw[hc];exact if_neg hc3
      rw[e2,hnone] at hu;exact absurd rfl hu
  have:=key (N.map Nv.dv) 0 (List.replicate cs.length false) h.marks;unfold marks;rw[List.length_append,List.length_cons,List.length_nil,List.replicate_succ'];exact this
end
end Go.Ct
namespace Go.Proofs.YtbajmaoegmbfgaaGreat
open Go.RowKit Go.Ct
section
variable{n:Nd}{xs:List Int}{ys:List Pr}
theorem y8:CV n xs ys↔CV (n.c xs ys).nd xs ys:=by unfold CV;rw[Og (n:=n)];exact Iff.rfl
theorem aEd:LV n xs ys↔LV (n.c xs ys).nd xs ys:=by unfold LV;rw[Og (n:=n)];exact Iff.rfl
theorem oq:CV (n.c xs ys).nd (n.c xs ys).xs (n.c xs ys).ys=CV n xs ys:=propext y8.symm
theorem aDh:LV (n.c xs ys).nd (n.c xs ys).xs (n.c xs ys).ys=LV n xs ys:=propext aEd.symm
def B7(b:Nat)(xs:List Int):Nv:=(cn b xs (none,0)).c xs []
noncomputable def iO (v:Nv) (i:Int):Option Int:=Ew v.nd v.xs v.ys v.bm.toNat i
noncomputable def Od (v:Nv):Option Int:=po v.nd v.xs v.ys
def Jv(o:Option (Nat×List Int)):Nv:=match o with|some q=>B7 q.1 q.2|none=>Nv.zero
noncomputable def gj (v:Nv) (i r:Int):Nv:=Jv (lu v.nd v.xs v.ys v.bm.toNat i r)
noncomputable def T4 (v:Nv) (i r:Int):Nv:=Jv (sm v.nd v.xs v.ys v.bm.toNat i r)
noncomputable def O2 (v:Nv) (i:Int):Nv:=Jv (sr v.nd v.xs v.ys v.bm.toNat i)
def tmV(s:Nv):Nv:=(tmb s.nd).c [] []
noncomputable def coV (v:Nv) (level:Int) (s:Nv):Nv:=if Tb v.nd v.xs v.ys level s.nd=true then tmV s else v
def unV(v:Nv):Nv:=(G5 v.nd).c [] []
noncomputable def grV (v:Nv) (k:ByteArray) (u:Int):Nv:=(j8 (lJ v.nd v.xs v.ys k u) v.hash (none,0)).c [] (bz (lJ v.nd v.xs v.ys k u))
noncomputable def uq (v:Nv) (k:ByteArray):Nv:=(Oy (rL v.nd v.xs v.ys k) v.hash (none,0)).c [] (Ji (rL v.nd v.xs v.ys k))
section
variable{n s:Nd}{xs:List Int}{ys:List Pr}{b:Nat}
theorem aCh(hb:n.bm=(b:Int))(i:Int):Ew n xs ys b i=iO (n.c xs ys) i:=by
 have e:(n.c xs ys).bm.toNat=b:=by show n.bm.toNat=b;omega
 unfold iO Ew;rw[e];rw[oq (n:=n)];rfl
theorem aAC:po n xs ys=Od (n.c xs ys):=by unfold Od po;rw[oq (n:=n)];rfl
theorem G9(o:Option (Nat×List Int))(x:Option Addr×Nat):(nD o x).c (mX o) []=Jv o:=by cases o<;>rfl
theorem aD6(hb:n.bm=(b:Int))(i r:Int):Jv (lu n xs ys b i r)=gj (n.c xs ys) i r:=by
 have e:(n.c xs ys).bm.toNat=b:=by show n.bm.toNat=b;omega
 unfold gj lu;rw[e];rw[oq (n:=n)];rfl
theorem aCO(hb:n.bm=(b:Int))(i r:Int):Jv (sm n xs ys b i r)=T4 (n.c xs ys) i r:=by
 have e:(n.c xs ys).bm.toNat=b:=by show n.bm.toNat=b;omega
 unfold T4 sm;rw[e];rw[oq (n:=n)];rfl
theorem aDc(hb:n.bm=(b:Int))(i:Int):Jv (sr n xs ys b i)=O2 (n.c xs ys) i:=by
 have e:(n.c xs ys).bm.toNat=b:=by show n.bm.toNat=b;omega
 unfold O2 sr;rw[e];rw[oq (n:=n)];rfl
theorem aEp(level:Int):(za (Tb n xs ys level s) n s).c (sq (Tb n xs ys level s) xs) (sq (Tb n xs ys level s) ys)=coV (n.c xs ys) level (s.c [] []):=by
 have e:Tb (n.c xs ys).nd xs ys level (s.c [] []).nd=Tb n xs ys level s:=by unfold Tb;rw[aAC (n:=n)];rfl
 have e':Tb (n.c xs ys).nd (n.c xs ys).xs (n.c xs ys).ys level (s.c [] []).nd=Tb n xs ys level s:=e;unfold coV za sq;rw[e'];split<;>rfl
theorem aCs:(G5 n).c [] []=unV (n.c xs ys):=by unfold unV G5;show _=Nd.c (if n.kind=5 then _ else _) _ _;split<;>rfl
theorem aEs(k:ByteArray)(u:Int)(x:Option Addr×Nat):(j8 (lJ n xs ys k u) n.hash x).c [] (bz (lJ n xs ys k u))=grV (n.c xs ys) k u:=by
 have e':lJ (n.c xs ys).nd (n.c xs ys).xs (n.c xs ys).ys k u=lJ n xs ys k u:=by unfold lJ;rw[aDh (n:=n)];rfl
 unfold grV;rw[e'];cases lJ n xs ys k u<;>rfl
theorem aEk(k:ByteArray)(x:Option Addr×Nat):(Oy (rL n xs ys k) n.hash x).c [] (Ji (rL n xs ys k))=uq (n.c xs ys) k:=by
 have e':rL (n.c xs ys).nd (n.c xs ys).xs (n.c xs ys).ys k=rL n xs ys k:=by unfold rL;rw[aDh (n:=n)];rfl
 unfold uq;rw[e'];cases rL n xs ys k with
 | none=>rfl
 | some m=>unfold Oy;simp only[Ji];split<;>rfl
end
end
end Go.Proofs.YtbajmaoegmbfgaaGreat
namespace Go.Ct
open Go Go.RowKit
section
def sl(h l:Nat):Nat:=(h >>> (6*l))%64
theorem vW(h l:Nat):sl h l<64:=Nat.mod_lt _ (by decide)
theorem qi(h l:Nat):(h >>> (6*l)) &&& 63=sl h l:=Nat.and_two_pow_sub_one_eq_mod _ 6
theorem M6(h j:Nat):(h >>> (6*j))/64=h >>> (6*(j+1)):=by rw[show 6*(j+1)=6*j+6 by omega,Nat.shiftRight_add,Nat.shiftRight_eq_div_pow (h >>> (6*j)) 6]
def Ip(h k:Nat):Nat->Nat->Nat
 | 0,l=>l
 | n+1,l=>if sl h l=sl k l then Ip h k n (l+1) else l
def kZ(h k:Nat):Nat:=Ip h k 11 0
theorem yR(h k:Nat):∀n l,l<=Ip h k n l/\Ip h k n l<=l+n/\(∀i,l<=i->i<Ip h k n l->sl h i=sl k i)/\(Ip h k n l<l+n->sl h (Ip h k n l)≠sl k (Ip h k n l))
 | 0,l=>⟨Nat.le_refl _,Nat.le_refl _,λ i h1 h2=>absurd h2 (by simp only[Ip];omega),λ h=>absurd h (by simp only[Ip];omega)⟩
 | n+1,l=>by
  simp only[Ip];split
  ·rename_i he;obtain⟨h1,h2,h3,h4⟩:=yR h k n (l+1);refine⟨by omega,by omega,λ i hi hi2=>?_,λ hlt=>h4 (by omega)⟩;rcases Nat.lt_or_eq_of_le hi with hi|rfl;·exact h3 i (by omega) hi2
   ·exact he
  ·rename_i he;exact⟨Nat.le_refl _,by omega,λ i h1 h2=>absurd h2 (by omega),λ _=>he⟩
theorem Ah(h k:Nat):kZ h k<=11:=by have:=(yR h k 11 0).2.1;unfold kZ;omega
theorem Tt{h k i:Nat}(hi:i<kZ h k):sl h i=sl k i:=(yR h k 11 0).2.2.1 i (Nat.zero_le _) hi
theorem Mx{h k:Nat}(hc:kZ h k<11):sl h (kZ h k)≠sl k (kZ h k):=(yR h k 11 0).2.2.2 (by unfold kZ at hc;omega)
theorem Uz{h k l:Nat}(hl:l<=11)(h1:∀i,i<l->sl h i=sl k i)(h2:l<11->sl h l≠sl k l):l=kZ h k:=by
 rcases Nat.lt_trichotomy l (kZ h k) with h3|h3|h3;·exact absurd (Tt h3) (h2 (by have:=Ah h k;omega))
 ·exact h3
 ·exact absurd (h1 _ h3) (Mx (by omega))
theorem aBh{P:Program}{S:List (Nat×Value)}{G:World->Prop}{d:Nat}{ty t t':TypeId}{pos:String}{af:Array Edge}{gd:Option (Nat×Bool)}{x y:Operand}{a b:Nat}(hx:ev S x=.int .u64 (a:Int))(hy:ev S y=.int .u64 (b:Int))(h0:b≠0)(ha:a<18446744073709551616):aL P S G ⟨some d,.binOp .quo t x y t',ty,pos,af,gd⟩ (.int .u64 ((a/b:Nat):Int)):=⟨λ w _=>by
 have h1:((b:Nat):Int)≠0:=by omega
 have h2:(a:Int).tdiv (b:Int)=((a/b:Nat):Int):=by rw[Int.tdiv_eq_ediv_of_nonneg (by omega)];rfl
 have h3:IntKind.u64.wrap ((a/b:Nat):Int)=((a/b:Nat):Int):=by have h4:=Nat.div_le_self a b;generalize a/b=q at h4 ⊢;rw[wrap_u64];omega
 simp only[execOp,hx,hy,eqGuard_at_int,binOp,Op.intDiv];simp[h0,h2];exact h3⟩
section
variable{P:Program}{S:List (Nat×Value)}{G:World->Prop}{d:Nat}{ty t t':TypeId}{pos:String}{af:Array Edge}{gd:Option (Nat×Bool)}{x y:Operand}{a b i:Nat}{k':IntKind}
theorem ym(hx:ev S x=.int .i64 (a:Int))(hy:ev S y=.int .i64 (b:Int))(h:a*b<=9223372036854775807):aL P S G ⟨some d,.binOp .mul t x y t',ty,pos,af,gd⟩ (.int .i64 ((a*b:Nat):Int)):=by have:=j4 (P:=P) (G:=G) (d:=d) (ty:=ty) (pos:=pos) (af:=af) (gd:=gd) (t:=t) (t':=t') hx hy;rw[<- Int.natCast_mul,wrap_i64 (by omega) (by omega)] at this;exact this
theorem aB5(hx:ev S x=.int .u64 (a:Int))(hy:ev S y=.int k' (i:Int))(h:i<=64):aL P S G ⟨some d,.binOp .shr t x y t',ty,pos,af,gd⟩ (.int .u64 ((a >>> i:Nat):Int)):=by have:=fk (P:=P) (G:=G) (d:=d) (ty:=ty) (pos:=pos) (af:=af) (gd:=gd) (t:=t) (t':=t') hx hy (by omega);rwa [pA h] at this
theorem Th(hx:ev S x=.int .u64 (a:Int))(hy:ev S y=.int .u64 (b:Int))(ha:a<18446744073709551616)(hb:b<18446744073709551616):aL P S G ⟨some d,.binOp .and t x y t',ty,pos,af,gd⟩ (.int .u64 ((a &&& b:Nat):Int)):=by have:=zi (P:=P) (G:=G) (d:=d) (ty:=ty) (pos:=pos) (af:=af) (gd:=gd) (t:=t) (t':=t') hx hy;rwa [pB ha hb] at this
theorem aBX(hx:ev S x=.int .u64 (a:Int))(hy:ev S y=.int .u64 (b:Int))(h0:b≠0):aL P S G ⟨some d,.binOp .rem t x y t',ty,pos,af,gd⟩ (.int .u64 ((a%b:Nat):Int)):=by have:=q0 (P:=P) (G:=G) (d:=d) (ty:=ty) (pos:=pos) (af:=af) (gd:=gd) (t:=t) (t':=t') hx hy (by omega);rwa [Int.tmod_eq_emod_of_nonneg (by omega),<- Int.natCast_emod] at this
end
end
end Go.Ct
namespace Go.Proofs.YtbajmaoegmbfgaaGreat
open Go.Proofs.Tryz
open Go.RowKit Go.Ct
section
theorem Z3{h l:Nat}(hh:h<18446744073709551616)(hl:l<=10)(w:World):Calls prog 150 #[.int .u64 (h:Int),.int .i64 (l:Int)] w λ e w'=>e=.returned (.int .i64 ((sl h l:Nat):Int))/\St w [] [] w':=by
 have hsl:(h >>> (6*l)) &&& 63<64:=by rw[qi];exact vW h l
 refine enter func150 ntmps150 rfl rfl (SF.s0 w) ?_;simp only[cC];refine Ka6 ?_;refine Au ?_;(refine Ka3 ?_);((refine aF ?_;refine lK ?_));refine cH ?_;refine aG ?_;refine bD (λ c10=>?_) (λ c10=>?_);·try (exfalso;omega)
 ·try (exfalso;omega)
  refine Ar ?_;refine aC (ym (a:=6) (b:=l) rf rf (by omega)) rfl ?_;refine gP ?_;refine aC (aB5 (i:=6*l) rf rf (by omega)) rfl ?_;refine aC (Th (b:=63) rf rf (Nat.lt_of_le_of_lt (Nat.shiftRight_le _ _) hh) (by decide)) rfl ?_;refine gP ?_;refine J1 ?_;refine aS results150 (λ w hw=>?_);exact⟨by rw[qi];rfl,hw.done⟩
theorem qY{h l:Nat}(hh:h<18446744073709551616)(hl:l<=10)(w:World):Calls prog 218 #[.int .u64 (h:Int),.int .i64 (l:Int)] w λ e w'=>e=.returned (.int .i64 ((sl h l:Nat):Int))/\St w [] [] w':=by
 refine enter func218 ntmps218 rfl rfl (SF.s0 w) ?_;simp only[cC];refine Ka6 ?_;refine Au ?_;(refine Ka3 ?_);refine Ka7 ?_;refine bD (λ c10=>?_) (λ c10=>?_);·try (exfalso;omega)
 ·try (exfalso;omega)
  refine sG ?_;refine gK [0,1,11,12,13,14,15,16] (λ y:Nat=>[(1,.int .i64 ((l-y:Nat):Int)),(0,.int .u64 ((h >>> (6*y):Nat):Int))]) (λ y=>y<=l) (λ y=>l-y) (0) (Nat.zero_le _) ?_ (λ y f hx=>?_);·repeat (first|exact bF _|refine bB (by exact rfl) ?_)
  refine K0a ?_;refine kF ?_;refine En ?_;refine aG ?_;refine bD (λ c12=>?_) (λ c12=>?_)
  ·try (exfalso;omega)
   refine sG ?_;refine xN ?_;refine aN (eO (aBh (b:=64) rf rf (by decide) (Nat.lt_of_le_of_lt (Nat.shiftRight_le _ _) hh))) (λ x16=>?_);refine J1 ?_;refine eV ?_;refine xN ?_;refine tE ?_;refine J1 ?_;refine eN (y+1) ?_ ?_ ?_;·omega
   ·repeat' (first|exact bF _|refine bB ?_ ?_)
    all_goals (first|exact rfl|(conv=>{lhs;whnf};rw[M6];done))
   ·omega
  ·try (exfalso;omega)
   refine bS rfl ?_;refine J2 ?_;refine aC (aBX (b:=64) rf rf (by decide)) rfl ?_;refine gP ?_;refine J1 ?_;refine aS results218 (λ w hw=>?_);have hy:y=l:=by omega
   subst hy;exact⟨rfl,hw.done⟩
theorem R9{h k:Nat}(hh:h<18446744073709551616)(hk:k<18446744073709551616)(w:World):Calls prog 260 #[.int .u64 (h:Int),.int .u64 (k:Int)] w λ e w'=>e=.returned (.int .i64 ((kZ h k:Nat):Int))/\St w [] [] w':=by
 refine enter func260 ntmps260 rfl rfl (SF.s0 w) ?_;simp only[cC];refine cX ?_;refine cX ?_;refine Dm ?_;refine gK [5,6,7,8,9,10,11,12,13,14,15,16,17,18] (λ y:Nat=>[(5,.int .i64 ((y:Nat):Int))]) (λ y=>y<=11/\∀i,i<y->sl h i=sl k i) (λ y=>11-y) (0) (⟨Nat.zero_le _,λ i hi=>absurd hi (Nat.not_lt_zero i)⟩) ?_ (λ y f hx=>?_);·repeat (first|exact bF _|refine bB (by exact rfl) ?_)
 refine K0a ?_;refine kF ?_;refine wB ?_;refine aA ?_;(refine eF 8 (λ g8=>?_) (λ g8=>?_)<;>refine Ka0 ?_);all_goals (refine Ka0 ?_;(first|refine aI ?_|(refine aF ?_;refine aN (cV (hc:=λ w1 hw=>qY (l:=y) hh (by omega) w1)) (λ x11=>?_)));refine Ka0 ?_;refine Ka0 ?_;(first|refine aI ?_|(refine aF ?_;refine aN (cV (hc:=λ w1 hw=>qY (l:=y) hk (by omega) w1)) (λ x14=>?_)));refine xF ?_;refine aG ?_)
 all_goals
 refine bD (λ c16=>?_) (λ c16=>?_)
 ·try exact nv c16
  all_goals (refine aW ?_;refine cR ?_;refine vB ?_;refine eV ?_)
  all_goals
   refine eN (y+1) ?_ ?_ ?_;·omega
   ·repeat' (first|exact bF _|refine bB ?_ ?_)
    exact rfl
   ·exact⟨by omega,λ i hi=>by rcases Nat.lt_succ_iff_lt_or_eq.1 hi with h|rfl;exact hx.2 i h;omega⟩
 ·all_goals try (exfalso;omega)
  all_goals (refine bS rfl ?_;refine Ka5 ?_)
  all_goals refine aS results260 (λ w hw=>?_);exact⟨by rw[<- Uz (h:=h) (k:=k) hx.1 hx.2 (λ _=>by omega)];rfl,hw.done⟩
end
end Go.Proofs.YtbajmaoegmbfgaaGreat
