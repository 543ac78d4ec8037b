/- Branches: the reference's build, Inserted, Updated, Removed. -/
import Derived.Test.YtbajmaoegmbfgaaGreatGTape
import Derived.Test.YtbajmaoegmbfgaaGreatJoin

set_option linter.unusedSimpArgs false
set_option linter.unusedVariables false
namespace Go.Proofs.YtbajmaoegmbfgaaGreat
section
open Go.RowKit Go.Ct
def gR(b:Nat)(xs:List Int)(i:Nat)(r:Int):Nat->Option Int:=Nu (rH b xs) i (if 0<r then some r else none)
theorem oH{m:Nat->Option Int}{k:Nat}{v:Int}(h:m k=some v)(hk:k<64):dO (Bs m k) (k:Int)=Bs m (k+1)/\qC m k++[v]=qC m (k+1):=by
 simp only[Bs,qC,h,dO,Option.isSome_some,if_true,Option.toList,Int.toNat_natCast,and_true]
 exact if_pos (by omega)
theorem oP{m:Nat->Option Int}{k:Nat}(h:m k=none):Bs m k=Bs m (k+1)/\qC m k=qC m (k+1):=by
 simp[Bs,qC,h]
theorem A1(m:Nat->Option Int){k:Nat}(hk:k<=64):Bs m k<18446744073709551616:=Nat.lt_of_lt_of_le (lq m k) (Nat.pow_le_pow_right (n:=2) (by decide) hk)
theorem U9(m:Nat->Option Int):∀k,(qC m k).length<=k
 | 0=>Nat.le_refl _
 | k+1=>by have:=U9 m k;simp only[qC,List.length_append];cases m k<;>simp<;>omega
section
variable{n:Nd}{xs:List Int}{ys:List Pr}{w:World}{b:Nat}
theorem U7(hcv:CV n xs ys){k:Nat}(hk:k<64):L7 n xs ys b (k:Int)=rH b xs k:=by
 unfold L7 rH
 have h1:pZ b (k:Int)=b.testBit k:=by rw[tL b (by omega) (by omega),Int.toNat_natCast]
 have h2:rE b (k:Int)=gU b k:=by unfold rE;rw[Int.toNat_natCast,Nat.min_eq_left (by omega)]
 rw[h1,h2]
 by_cases h:b.testBit k=true<;>simp[h,hcv]
theorem E4{i k:Nat}{r:Int}(hcv:CV n xs ys)(hk:k<64)(h:(k:Int)≠(i:Int)):gR b xs i r k=L7 n xs ys b (k:Int):=by
 rw[U7 hcv hk]
 exact if_neg (by omega)
theorem Ez{i k:Nat}{r:Int}(h:(k:Int)=(i:Int)):gR b xs i r k=if 0<r then some r else none:=if_pos (by omega)
theorem Xb{o:Option Int}(h:o.isSome=true):o=some (o.getD 0):=by cases o<;>simp_all
theorem Vn{o:Option Int}(h:o.isSome=false):o=none:=by cases o<;>simp_all
set_option maxHeartbeats 800000 in
theorem Mz(i:Nat)(r:Int)(_hi:i<64)(hcv:CV n xs ys)(hb:n.bm=(b:Int))(hb2:b<18446744073709551616)(hr:sE w n xs ys) :
    Calls Tryz.prog 244 #[n.v,.int .i64 (i:Int),.int .i64 r] w λ e w'=>∃x:Option Addr×Nat,e=.returned (cn (Bs (gR b xs i r) 64) (qC (gR b xs i r) 64) x).v/\(qC (gR b xs i r) 64).length<=x.2/\SF w [] [] [] [(x.1,aH (qC (gR b xs i r) 64))] [] w':=by
  have e1:=hr.brN
  refine enter Tryz.func244 Tryz.ntmps244 rfl rfl (SF.s2 hr.br hr.pr) ?_
  simp only[cA]
  simp only[Nd.v,Nd.cells]
  refine J0 ?_;refine bK (λ x3=>?_);refine aJ (λ x6=>?_);refine aG ?_;refine J0 ?_;refine bI ?_;refine aJ (λ x7=>?_);refine J5 ?_;refine aS ?_;refine Ea ?_
  refine oK [8,9,10,12,13,14,15,16,17,18,19,20,21,22,23,24,25,26,27,28,29,30,31,32,33,34,35,36,37,38,39] (λ y:Nat×Option Addr×Nat=>[(8,.int .i64 ((y.1:Nat):Int))]) (λ y=>y.1<=64/\(qC (gR b xs i r) y.1).length<=y.2.2) (λ y=>[(x7,.cells ⟨[.int .i64 3,.int .i64 0,.int .i64 0,.int .u64 ((Bs (gR b xs i r) y.1:Nat):Int),.slice y.2.1 (qC (gR b xs i r) y.1).length y.2.2,.int .u64 0,.string ⟨#[]⟩,.int .u64 0,.slice none 0 0,.int .i64 0,.int .i64 0,.int .i64 0,.int .i64 0,.int .i64 0]⟩ 47),(x6,.cells ⟨Nd.zero.cells⟩ 47),(x3,.cells ⟨n.cells⟩ 47)]) (λ _=>_) (λ y=>[⟨y.2.1,aH (qC (gR b xs i r) y.1),y.2.2,37,1⟩]) (λ y=>64-y.1) ((0,none,0)) (⟨Nat.zero_le _,Nat.le_refl _⟩) (λ y f hx=>?_) (hw0:=λ w hw=>(hw.kU 37 1).back)
  dsimp only[hX,List.map,List.cons_append,List.nil_append]
  have hll:=U9 (gR b xs i r) y.1
  refine kR ?_;refine Bv ?_
  refine bD (λ c13=>?_) (λ c13=>?_)
  · refine rR ?_;refine Dg ?_;refine aN (cV (hc:=λ w1 hw=>oL (n:=n) (y.1:Int) hb hb2 (hr.gF hw.done))) (λ x19=>?_);refine aA ?_;refine aC (jO rf rfl) rfl ?_;refine aC (jO rf rfl) rfl ?_;refine J8 ?_;refine Db ?_;refine sU ?_
    refine bD (λ c24=>?_) (λ c24=>?_)
    · refine Jc ?_;refine Ay ?_;refine J8 ?_;refine J2 ?_;refine aG ?_
      refine bD (λ c28=>?_) (λ c28=>?_)
      · first
         | have hm:gR b xs i r y.1=some r:=by rw[Ez c24,if_pos (by omega)]
         | have hm:gR b xs i r y.1=some ((L7 n xs ys b (y.1:Int)).getD 0):=by rw[E4 hcv (by omega) c24];exact Xb c28
        refine dX [29,30,31,32,33,34,35,36,37,38,39] (λ z:Nat×Option Addr×Nat=>[]) (λ z=>(qC (gR b xs i r) y.1).length+1<=z.2.2) (λ z=>[(x7,.cells ⟨[.int .i64 3,.int .i64 0,.int .i64 0,.int .u64 ((Bs (gR b xs i r) (y.1+1):Nat):Int),.slice z.2.1 (qC (gR b xs i r) (y.1+1)).length z.2.2,.int .u64 0,.string ⟨#[]⟩,.int .u64 0,.slice none 0 0,.int .i64 0,.int .i64 0,.int .i64 0,.int .i64 0,.int .i64 0]⟩ 47),(x6,.cells ⟨Nd.zero.cells⟩ 47),(x3,.cells ⟨n.cells⟩ 47)]) (λ z=>[]) (λ z=>[⟨z.2.1,aH (qC (gR b xs i r) (y.1+1)),z.2.2,37,1⟩]) (by decide) (λ _=>by exact rfl) ?_ (λ z f hx=>?_)
        · refine fR (.one 0 [] (.one 1 [] (.one 2 [] (.one 4 [] (.one 5 [] (.one 6 [] (.two 3 [5] (.one 9 [] (.one 7 [1,5] (.one 8 [] (.one 10 [] (.one 11 [] (.one 12 [] .nil)))))) 0 [] (.two 7 [1,5] (.one 3 [5] (.one 9 [] (.one 8 [] (.one 10 [] (.one 11 [] (.one 12 [] .nil)))))) 0 [] .nil)))))))) ?_
          refine nA ?_;refine aT ?_;refine nA ?_;refine aT ?_
          refine fD (E:=[3,7]) (by decide +kernel) ((.cons ?_ (.cons ?_ .nil)))
          · refine Aq (i:=3) (hq:=(cV (hc:=λ w1 hw=>nK (A1 (gR b xs i r) (k:=y.1) (by omega)) (y.1:Int) w1))) (h:=λ x32=>?_)
            refine aU ?_;refine cB (h:=λ x36=>?_);((refine mH (h:=λ x37=>?_);try (refine eI (λ h37=>?_))));refine Ta ?_;refine yR ?_
            refine eE ((0,x37)) ?_ (hw1:=λ w hw=>by obtain⟨k1,k2⟩:=oH hm (by omega);rw[k1,show(qC (gR b xs i r) y.1).length+1=(qC (gR b xs i r) (y.1+1)).length by rw[<- k2];simp,k2] at hw;exact hw.back)
            · exact h37
          · refine mF (i:=7) (h:=λ x36=>?_)
            refine cO (i:=3) (hq:=(cV (hc:=λ w1 hw=>nK (A1 (gR b xs i r) (k:=y.1) (by omega)) (y.1:Int) w1))) (h:=λ x32=>?_);refine aU ?_;((refine mH (h:=λ x37=>?_);try (refine eI (λ h37=>?_))));refine Ta ?_;refine yR ?_
            refine eE ((0,x37)) ?_ (hw1:=λ w hw=>by obtain⟨k1,k2⟩:=oH hm (by omega);rw[k1,show(qC (gR b xs i r) y.1).length+1=(qC (gR b xs i r) (y.1+1)).length by rw[<- k2];simp,k2] at hw;exact hw.back)
            · exact h37
        dsimp only[hX,List.map,List.cons_append,List.nil_append]
        refine Kb2 ?_
        refine jG ((by exact(y.1+1,z.2))) ?_ (hw1:=λ w hw=>by exact hw.back)
        · first
           | exact⟨by omega,by have k2:=(oH hm (by omega)).2;simp only[];rw[<- k2,List.length_append];exact hx⟩
           | exact⟨by omega,by simp only[];rw[<- (oP hm).2];exact hx.2⟩
      · have hm:gR b xs i r y.1=none:=by
         first
          | (rw[Ez c24,if_neg (by omega)];done)
          | (rw[E4 hcv (by omega) c24];exact Vn c28)
        refine Kc2 ?_
        refine jG ((by exact(y.1+1,y.2))) ?_ (hw1:=λ w hw=>by(rw[(oP hm).1,(oP hm).2] at hw;exact hw.back))
        · first
           | exact⟨by omega,by have k2:=(oH hm (by omega)).2;simp only[];rw[<- k2,List.length_append];exact hx⟩
           | exact⟨by omega,by simp only[];rw[<- (oP hm).2];exact hx.2⟩
    · refine aW ?_;refine J2 ?_;refine aG ?_
      refine bD (λ c28=>?_) (λ c28=>?_)
      · first
         | have hm:gR b xs i r y.1=some r:=by rw[Ez c24,if_pos (by omega)]
         | have hm:gR b xs i r y.1=some ((L7 n xs ys b (y.1:Int)).getD 0):=by rw[E4 hcv (by omega) c24];exact Xb c28
        refine dX [29,30,31,32,33,34,35,36,37,38,39] (λ z:Nat×Option Addr×Nat=>[]) (λ z=>(qC (gR b xs i r) y.1).length+1<=z.2.2) (λ z=>[(x7,.cells ⟨[.int .i64 3,.int .i64 0,.int .i64 0,.int .u64 ((Bs (gR b xs i r) (y.1+1):Nat):Int),.slice z.2.1 (qC (gR b xs i r) (y.1+1)).length z.2.2,.int .u64 0,.string ⟨#[]⟩,.int .u64 0,.slice none 0 0,.int .i64 0,.int .i64 0,.int .i64 0,.int .i64 0,.int .i64 0]⟩ 47),(x6,.cells ⟨Nd.zero.cells⟩ 47),(x3,.cells ⟨n.cells⟩ 47)]) (λ z=>[]) (λ z=>[⟨z.2.1,aH (qC (gR b xs i r) (y.1+1)),z.2.2,37,1⟩]) (by decide) (λ _=>by exact rfl) ?_ (λ z f hx=>?_)
        · refine fR (.one 0 [] (.one 1 [] (.one 2 [] (.one 4 [] (.one 5 [] (.one 6 [] (.two 3 [5] (.one 9 [] (.one 7 [1,5] (.one 8 [] (.one 10 [] (.one 11 [] (.one 12 [] .nil)))))) 0 [] (.two 7 [1,5] (.one 3 [5] (.one 9 [] (.one 8 [] (.one 10 [] (.one 11 [] (.one 12 [] .nil)))))) 0 [] .nil)))))))) ?_
          refine nA ?_;refine aT ?_;refine nA ?_;refine aT ?_
          refine fD (E:=[3,7]) (by decide +kernel) ((.cons ?_ (.cons ?_ .nil)))
          · refine Aq (i:=3) (hq:=(cV (hc:=λ w1 hw=>nK (A1 (gR b xs i r) (k:=y.1) (by omega)) (y.1:Int) w1))) (h:=λ x32=>?_)
            refine aU ?_;refine cB (h:=λ x36=>?_);((refine mH (h:=λ x37=>?_);try (refine eI (λ h37=>?_))));refine Ta ?_;refine yR ?_
            refine eE ((0,x37)) ?_ (hw1:=λ w hw=>by obtain⟨k1,k2⟩:=oH hm (by omega);rw[k1,show(qC (gR b xs i r) y.1).length+1=(qC (gR b xs i r) (y.1+1)).length by rw[<- k2];simp,k2] at hw;exact hw.back)
            · exact h37
          · refine mF (i:=7) (h:=λ x36=>?_)
            refine cO (i:=3) (hq:=(cV (hc:=λ w1 hw=>nK (A1 (gR b xs i r) (k:=y.1) (by omega)) (y.1:Int) w1))) (h:=λ x32=>?_);refine aU ?_;((refine mH (h:=λ x37=>?_);try (refine eI (λ h37=>?_))));refine Ta ?_;refine yR ?_
            refine eE ((0,x37)) ?_ (hw1:=λ w hw=>by obtain⟨k1,k2⟩:=oH hm (by omega);rw[k1,show(qC (gR b xs i r) y.1).length+1=(qC (gR b xs i r) (y.1+1)).length by rw[<- k2];simp,k2] at hw;exact hw.back)
            · exact h37
        dsimp only[hX,List.map,List.cons_append,List.nil_append]
        refine Kb2 ?_
        refine jG ((by exact(y.1+1,z.2))) ?_ (hw1:=λ w hw=>by exact hw.back)
        · first
           | exact⟨by omega,by have k2:=(oH hm (by omega)).2;simp only[];rw[<- k2,List.length_append];exact hx⟩
           | exact⟨by omega,by simp only[];rw[<- (oP hm).2];exact hx.2⟩
      · have hm:gR b xs i r y.1=none:=by
         first
          | (rw[Ez c24,if_neg (by omega)];done)
          | (rw[E4 hcv (by omega) c24];exact Vn c28)
        refine Kc2 ?_
        refine jG ((by exact(y.1+1,y.2))) ?_ (hw1:=λ w hw=>by(rw[(oP hm).1,(oP hm).2] at hw;exact hw.back))
        · first
           | exact⟨by omega,by have k2:=(oH hm (by omega)).2;simp only[];rw[<- k2,List.length_append];exact hx⟩
           | exact⟨by omega,by simp only[];rw[<- (oP hm).2];exact hx.2⟩
  · refine bR rfl ?_;refine nF ?_;refine J5 ?_
    refine aY Tryz.results244 (λ w hw=>?_)
    have hy:y.1=64:=by omega
    rw[hy] at hw hx ⊢
    generalize Bs (gR b xs i r) 64=B at hw ⊢
    generalize qC (gR b xs i r) 64=L at hw hx ⊢
    exact⟨y.2,rfl,hx.2,SF.frz hw.aX⟩
end
end

/- Branches: the reference's Inserted, Updated, Removed. -/
section
open Go.RowKit Go.Ct
theorem of_eq{m:Nat->Option Int}{b:Nat}{xs:List Int}(h:BV b xs/\∀k,k<64->rH b xs k=m k):Bs m 64=b/\qC m 64=xs:=by
 obtain⟨h1,h2⟩:=Rm 64 λ k hk=>(h.2 k hk).symm
 obtain⟨h3,h4⟩:=Si h.1
 exact⟨h1.trans h3,h2.trans h4⟩
theorem pW{k:Nat}(b:Nat)(hk:k<64):dO b (k:Int)=b ||| 2^k:=by
 unfold dO;rw[if_pos (by omega),Int.toNat_natCast]
theorem tY{k:Nat}(b:Nat)(hk:k<64):wD b (k:Int)=b ^^^ (b &&& 2^k):=by
 unfold wD;rw[if_pos (by omega),Int.toNat_natCast]
theorem oN{k:Nat}(b:Nat)(hk:k<64):rE b (k:Int)=gU b k:=by
 unfold rE;rw[Int.toNat_natCast,Nat.min_eq_left (by omega)]
theorem qP{k:Nat}(b:Nat)(hk:k<64):pZ b (k:Int)=b.testBit k:=by
 rw[tL b (by omega) (by omega),Int.toNat_natCast]
theorem Yf{b k:Nat}{xs:List Int}{r:Int}(h:BV b xs)(hk:k<64)(hb:pZ b (k:Int)=false)(hr:1<=r):Bs (gR b xs k r) 64=dO b (k:Int)/\qC (gR b xs k r) 64=wV xs (rE b (k:Int)) r:=by
 rw[qP b hk] at hb
 rw[pW b hk,oN b hk]
 unfold gR
 rw[if_pos (by omega)]
 exact of_eq (Ft h hk hb hr)
theorem Xu{b k:Nat}{xs:List Int}{r:Int}(h:BV b xs)(hk:k<64)(hb:pZ b (k:Int)=true)(hr:1<=r):Bs (gR b xs k r) 64=b/\qC (gR b xs k r) 64=zL xs (rE b (k:Int)) r:=by
 rw[qP b hk] at hb
 rw[oN b hk]
 unfold gR
 rw[if_pos (by omega)]
 exact of_eq (Tu h hk hb hr)
theorem Y0{b k:Nat}{xs:List Int}(h:BV b xs)(hk:k<64)(hb:pZ b (k:Int)=true):Bs (gR b xs k 0) 64=wD b (k:Int)/\qC (gR b xs k 0) 64=sB xs (rE b (k:Int)):=by
 rw[qP b hk] at hb
 rw[tY b hk,oN b hk]
 unfold gR
 rw[if_neg (by omega)]
 exact of_eq (T4 h hk hb)
section
variable{n:Nd}{xs:List Int}{ys:List Pr}{w:World}{b:Nat}
theorem Al{i:Int}(h:(L7 n xs ys b i).isSome=true):CV n xs ys/\pZ b i=true:=by
 unfold L7 at h
 split at h
 ·assumption
 ·cases h
theorem Gs{i:Int}(h:(L7 n xs ys b i).isSome=false)(hcv:CV n xs ys):pZ b i=false:=by
 unfold L7 at h
 split at h
 ·cases h
 ·rename_i hn
  cases hh:pZ b i with
  | false=>rfl
  | true=>exact absurd ⟨hcv,hh⟩ hn
theorem I7(i r:Int)(hb:n.bm=(b:Int))(hb2:b<18446744073709551616)(hr:sE w n xs ys):Calls Tryz.prog 249 #[n.v,.int .i64 i,.int .i64 r] w (X8 w (n0 n xs ys b i r)):=by
 refine enter Tryz.func249 Tryz.ntmps249 rfl rfl (SF.s2 hr.br hr.pr) ?_
 simp only[cA]
 simp only[Nd.v,Nd.cells]
 refine J0 ?_;refine bK (λ x3=>?_);refine aJ (λ x6=>?_);refine iZ ?_;refine Dg ?_;refine aN (cV (hc:=λ w1 hw=>oL (n:=n) i hb hb2 (hr.gF hw.done))) (λ x13=>?_);refine aA ?_;refine aC (jO rf rfl) rfl ?_;refine aC (jO rf rfl) rfl ?_;refine J8 ?_;refine nF ?_;refine aD (c0 (V:=.bool) (hc:=λ w1 hw=>cu (n:=n) hb hb2 (hr.gF hw.done))) (λ x17 h17=>?_);refine Bq ?_
 (refine dZ 19 (λ g19=>?_) (λ g19=>?_)<;>refine Ka0 ?_)
 all_goals (refine Ka6 ?_)
 all_goals (first|refine aI ?_|(refine dZ 22 (λ g22=>?_) (λ g22=>?_)<;>refine Ka0 ?_))
 all_goals (refine vg ?_;refine aA ?_)
 all_goals (first|refine aI ?_|(refine dZ 26 (λ g26=>?_) (λ g26=>?_)<;>refine Ka0 ?_))
 all_goals (refine Ax ?_;refine aA ?_)
 all_goals (first|refine aI ?_|(refine dZ 30 (λ g30=>?_) (λ g30=>?_)<;>refine Ka0 ?_))
 all_goals (refine vg ?_;refine aG ?_)
 all_goals
 refine bD (λ c33=>?_) (λ c33=>?_)
 ·all_goals (refine J0 ?_;refine bI ?_;refine Cr ?_)
  all_goals
   refine aY Tryz.results249 (λ w hw=>?_)
   rw[show n0 n xs ys b i r=none from if_neg (by rintro ⟨k1,⟨k2,k3⟩,k4,k5⟩;clear hw;first|omega|exact absurd (Al g22).2 (by simp[k5])|exact absurd (h17.2 k1) (by simp_all))];exact⟨(none,0),rfl,Nat.le_refl _,(hw.Mo none).fin⟩
 ·try exact nv c33
  all_goals
   have hcv:=h17.1 (by simpa using g19)
   have hh:=Gs g22 hcv
   obtain⟨k,rfl⟩:=Int.eq_ofNat_of_zero_le (show 0<=i by omega)
   have hk:=Yf (hcv.bv hb hb2) (k:=k) (by omega) hh (r:=r) (by omega)
  all_goals (refine aW ?_;refine nF ?_;refine pV ?_;refine aD (cF (hc:=λ w1 hw=>by have:=Mz (w:=w1) k r (by omega) hcv hb hb2 (hr.gF hw.done);rw[hk.1,hk.2] at this;exact this)) (λ x38 h38=>?_);refine Cr ?_)
  all_goals
   refine aY Tryz.results249 (λ w hw=>?_)
   rw[show n0 n xs ys b (k:Int) r=some (dO b (k:Int),wV xs (rE b (k:Int)) r) from if_pos ⟨hcv,⟨by omega,by omega⟩,by omega,hh⟩];exact⟨x38,rfl,h38,hw.fin⟩
theorem Li(i r:Int)(hb:n.bm=(b:Int))(hb2:b<18446744073709551616)(hr:sE w n xs ys):Calls Tryz.prog 220 #[n.v,.int .i64 i,.int .i64 r] w (X8 w (nq n xs ys b i r)):=by
 refine enter Tryz.func220 Tryz.ntmps220 rfl rfl (SF.s2 hr.br hr.pr) ?_
 simp only[cA]
 simp only[Nd.v,Nd.cells]
 refine J0 ?_;refine bK (λ x3=>?_);refine aJ (λ x6=>?_);refine iZ ?_;refine Dg ?_;refine aN (cV (hc:=λ w1 hw=>oL (n:=n) i hb hb2 (hr.gF hw.done))) (λ x13=>?_);refine aA ?_;refine aC (jO rf rfl) rfl ?_;refine aC (jO rf rfl) rfl ?_;refine J8 ?_;refine J2 ?_;refine Bq ?_
 (refine dZ 18 (λ g18=>?_) (λ g18=>?_)<;>refine Ka0 ?_)
 all_goals (refine vg ?_;refine aG ?_)
 all_goals
 refine bD (λ c21=>?_) (λ c21=>?_)
 ·all_goals (refine J0 ?_;refine bI ?_;refine Cr ?_)
  all_goals
   refine aY Tryz.results220 (λ w hw=>?_)
   rw[show nq n xs ys b i r=none from if_neg (by rintro ⟨k1,k4,k5⟩;clear hw;first|omega|exact absurd (Gs (by simpa using g18) k1) (by simp[k5]))];exact⟨(none,0),rfl,Nat.le_refl _,(hw.Mo none).fin⟩
 ·try exact nv c21
  all_goals
   have hc:=Al (by simpa using g18)
   have hcv:=hc.1
   have hh:=hc.2
   obtain⟨q1,q2,_,_⟩:=sK hh
   obtain⟨k,rfl⟩:=Int.eq_ofNat_of_zero_le q1
   have hk:=Xu (hcv.bv hb hb2) (k:=k) (by omega) hh (r:=r) (by omega)
  all_goals (refine aW ?_;refine nF ?_;refine pV ?_;refine aD (cF (hc:=λ w1 hw=>by have:=Mz (w:=w1) k r (by omega) hcv hb hb2 (hr.gF hw.done);rw[hk.1,hk.2] at this;exact this)) (λ x26 h26=>?_);refine Cr ?_)
  all_goals
   refine aY Tryz.results220 (λ w hw=>?_)
   rw[show nq n xs ys b (k:Int) r=some (b,zL xs (rE b (k:Int)) r) from if_pos ⟨hcv,by omega,hh⟩];exact⟨x26,rfl,h26,hw.fin⟩
theorem Mu(i:Int)(hb:n.bm=(b:Int))(hb2:b<18446744073709551616)(hr:sE w n xs ys):Calls Tryz.prog 252 #[n.v,.int .i64 i] w (X8 w (nz n xs ys b i)):=by
 refine enter Tryz.func252 Tryz.ntmps252 rfl rfl (SF.s2 hr.br hr.pr) ?_
 simp only[cA]
 simp only[Nd.v,Nd.cells]
 refine J0 ?_;refine bK (λ x2=>?_);refine aJ (λ x4=>?_);refine iZ ?_;refine Dg ?_;refine aN (cV (hc:=λ w1 hw=>oL (n:=n) i hb hb2 (hr.gF hw.done))) (λ x11=>?_);refine aA ?_;refine aC (jO rf rfl) rfl ?_;refine aC (jO rf rfl) rfl ?_;refine J8 ?_;refine J2 ?_;refine pE ?_
 refine bD (λ c15=>?_) (λ c15=>?_)
 ·refine J0 ?_;refine bI ?_;refine Cr ?_
  refine aY Tryz.results252 (λ w hw=>?_)
  rw[show nz n xs ys b i=none from if_neg (by rintro ⟨k1,k5⟩;clear hw;exact absurd (Gs c15 k1) (by simp[k5]))];exact⟨(none,0),rfl,Nat.le_refl _,(hw.Mo none).fin⟩
 ·have hc:=Al c15
  have hcv:=hc.1
  have hh:=hc.2
  obtain⟨q1,q2,_,_⟩:=sK hh
  obtain⟨k,rfl⟩:=Int.eq_ofNat_of_zero_le q1
  have hk:=Y0 (hcv.bv hb hb2) (k:=k) (by omega) hh
  refine aW ?_;refine Dg ?_;refine aD (cF (hc:=λ w1 hw=>by have:=Mz (w:=w1) k 0 (by omega) hcv hb hb2 (hr.gF hw.done);rw[hk.1,hk.2] at this;exact this)) (λ x19 h19=>?_);refine Cr ?_
  refine aY Tryz.results252 (λ w hw=>?_)
  rw[show nz n xs ys b (k:Int)=some (wD b (k:Int),sB xs (rE b (k:Int))) from if_pos ⟨hcv,hh⟩];exact⟨x19,rfl,h19,hw.fin⟩
end
end

end Go.Proofs.YtbajmaoegmbfgaaGreat
