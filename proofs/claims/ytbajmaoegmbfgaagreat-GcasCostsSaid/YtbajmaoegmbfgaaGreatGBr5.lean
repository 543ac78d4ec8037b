/- Branches: the reference's build, Inserted, Updated, Removed. -/
import Derived.Test.YtbajmaoegmbfgaaGreatGTape
import Derived.Test.YtbajmaoegmbfgaaGreatJoin

set_option linter.unusedSimpArgs false
set_option linter.unusedVariables false
namespace Go.Proofs.YtbajmaoegmbfgaaGreat
section
open Go.RowKit Go.Ct
def gI(b:Nat)(xs:List Int)(i:Nat)(r:Int):Nat->Option Int:=Mw (qS b xs) i (if 0<r then some r else none)
theorem nU{m:Nat->Option Int}{k:Nat}{v:Int}(h:m k=some v)(hk:k<64):dR (A2 m k) (k:Int)=A2 m (k+1)/\pT m k++[v]=pT m (k+1):=by
 simp only[A2,pT,h,dR,Option.isSome_some,if_true,Option.toList,Int.toNat_natCast,and_true]
 exact if_pos (by omega)
theorem oF{m:Nat->Option Int}{k:Nat}(h:m k=none):A2 m k=A2 m (k+1)/\pT m k=pT m (k+1):=by
 simp[A2,pT,h]
theorem Ad(m:Nat->Option Int){k:Nat}(hk:k<=64):A2 m k<18446744073709551616:=Nat.lt_of_lt_of_le (fl m k) (Nat.pow_le_pow_right (n:=2) (by decide) hk)
theorem Tp(m:Nat->Option Int):∀k,(pT m k).length<=k
 | 0=>Nat.le_refl _
 | k+1=>by have:=Tp m k;simp only[pT,List.length_append];cases m k<;>simp<;>omega
section
variable{n:Nd}{xs:List Int}{ys:List Pr}{w:World}{b:Nat}
theorem Vm(hcv:CV n xs ys){k:Nat}(hk:k<64):Kh n xs ys b (k:Int)=qS b xs k:=by
 unfold Kh qS
 have h1:pP b (k:Int)=b.testBit k:=by rw[tE b (by omega) (by omega),Int.toNat_natCast]
 have h2:rB b (k:Int)=gJ b k:=by unfold rB;rw[Int.toNat_natCast,Nat.min_eq_left (by omega)]
 rw[h1,h2]
 by_cases h:b.testBit k=true<;>simp[h,hcv]
theorem D1{i k:Nat}{r:Int}(hcv:CV n xs ys)(hk:k<64)(h:(k:Int)≠(i:Int)):gI b xs i r k=Kh n xs ys b (k:Int):=by
 rw[Vm hcv hk]
 exact if_neg (by omega)
theorem Ee{i k:Nat}{r:Int}(h:(k:Int)=(i:Int)):gI b xs i r k=if 0<r then some r else none:=if_pos (by omega)
theorem Vt{o:Option Int}(h:o.isSome=true):o=some (o.getD 0):=by cases o<;>simp_all
theorem Up{o:Option Int}(h:o.isSome=false):o=none:=by cases o<;>simp_all
set_option maxHeartbeats 800000 in
theorem Kk(i:Nat)(r:Int)(_hi:i<64)(hcv:CV n xs ys)(hb:n.bm=(b:Int))(hb2:b<18446744073709551616)(hr:rX w n xs ys) :
    Calls Tryz.prog 244 #[n.v,.int .i64 (i:Int),.int .i64 r] w λ e w'=>∃x:Option Addr×Nat,e=.returned (cn (A2 (gI b xs i r) 64) (pT (gI b xs i r) 64) x).v/\(pT (gI b xs i r) 64).length<=x.2/\SF w [] [] [] [(x.1,aG (pT (gI b xs i r) 64))] [] w':=by
  have e1:=hr.brN
  refine enter Tryz.func244 Tryz.ntmps244 rfl rfl (SF.s2 hr.br hr.pr) ?_
  simp only[cD]
  simp only[Nd.v,Nd.cells]
  refine J0 ?_;refine bK (λ x3=>?_);refine aJ (λ x6=>?_);refine aH ?_;refine J0 ?_;refine bM ?_;refine aJ (λ x7=>?_);refine J5 ?_;refine aS ?_;refine Dn ?_
  refine oI [8,9,10,12,13,14,15,16,17,18,19,20,21,22,23,24,25,26,27,28,29,30,31,32,33,34,35,36,37,38,39] (λ y:Nat×Option Addr×Nat=>[(8,.int .i64 ((y.1:Nat):Int))]) (λ y=>y.1<=64/\(pT (gI b xs i r) y.1).length<=y.2.2) (λ y=>[(x7,.cells ⟨[.int .i64 3,.int .i64 0,.int .i64 0,.int .u64 ((A2 (gI b xs i r) y.1:Nat):Int),.slice y.2.1 (pT (gI b xs i r) y.1).length y.2.2,.int .u64 0,.string ⟨#[]⟩,.int .u64 0,.slice none 0 0,.int .i64 0,.int .i64 0,.int .i64 0,.int .i64 0,.int .i64 0]⟩ 47),(x6,.cells ⟨Nd.zero.cells⟩ 47),(x3,.cells ⟨n.cells⟩ 47)]) (λ _=>_) (λ y=>[⟨y.2.1,aG (pT (gI b xs i r) y.1),y.2.2,37,1⟩]) (λ y=>64-y.1) ((0,none,0)) (⟨Nat.zero_le _,Nat.le_refl _⟩) (λ y f hx=>?_) (hw0:=λ w hw=>(hw.kH 37 1).back)
  dsimp only[iA,List.map,List.cons_append,List.nil_append]
  have hll:=Tp (gI b xs i r) y.1
  refine kX ?_;refine Cf ?_
  refine aZ (λ c13=>?_) (λ c13=>?_)
  · refine rR ?_;refine Dy ?_;refine aN (cV (hc:=λ w1 hw=>nZ (n:=n) (y.1:Int) hb hb2 (hr.fW hw.done))) (λ x19=>?_);refine aA ?_;refine aC (jH rf rfl) rfl ?_;refine aC (jH rf rfl) rfl ?_;refine J8 ?_;refine A6 ?_;refine sH ?_
    refine aZ (λ c24=>?_) (λ c24=>?_)
    · refine Ih ?_;refine Db ?_;refine J8 ?_;refine J2 ?_;refine aH ?_
      refine aZ (λ c28=>?_) (λ c28=>?_)
      · first
         | have hm:gI b xs i r y.1=some r:=by rw[Ee c24,if_pos (by omega)]
         | have hm:gI b xs i r y.1=some ((Kh n xs ys b (y.1:Int)).getD 0):=by rw[D1 hcv (by omega) c24];exact Vt c28
        refine eQ [29,30,31,32,33,34,35,36,37,38,39] (λ z:Nat×Option Addr×Nat=>[]) (λ z=>(pT (gI b xs i r) y.1).length+1<=z.2.2) (λ z=>[(x7,.cells ⟨[.int .i64 3,.int .i64 0,.int .i64 0,.int .u64 ((A2 (gI b xs i r) (y.1+1):Nat):Int),.slice z.2.1 (pT (gI b xs i r) (y.1+1)).length z.2.2,.int .u64 0,.string ⟨#[]⟩,.int .u64 0,.slice none 0 0,.int .i64 0,.int .i64 0,.int .i64 0,.int .i64 0,.int .i64 0]⟩ 47),(x6,.cells ⟨Nd.zero.cells⟩ 47),(x3,.cells ⟨n.cells⟩ 47)]) (λ z=>[]) (λ z=>[⟨z.2.1,aG (pT (gI b xs i r) (y.1+1)),z.2.2,37,1⟩]) (by decide) (λ _=>by exact rfl) ?_ (λ z f hx=>?_)
        · refine gR (.one 0 [] (.one 1 [] (.one 2 [] (.one 4 [] (.one 5 [] (.one 6 [] (.two 3 [5] (.one 9 [] (.one 7 [1,5] (.one 8 [] (.one 10 [] (.one 11 [] (.one 12 [] .nil)))))) 0 [] (.two 7 [1,5] (.one 3 [5] (.one 9 [] (.one 8 [] (.one 10 [] (.one 11 [] (.one 12 [] .nil)))))) 0 [] .nil)))))))) ?_
          refine mI ?_;refine aT ?_;refine mI ?_;refine aT ?_
          refine gT (E:=[3,7]) (by decide +kernel) ((.cons ?_ (.cons ?_ .nil)))
          · refine It (i:=3) (hq:=(cV (hc:=λ w1 hw=>nE (Ad (gI b xs i r) (k:=y.1) (by omega)) (y.1:Int) w1))) (h:=λ x32=>?_)
            refine aU ?_;refine cB (h:=λ x36=>?_);((refine lZ (h:=λ x37=>?_);try (refine eG (λ h37=>?_))));refine Ri ?_;refine B8 ?_
            refine fC ((0,x37)) ?_ (hw1:=λ w hw=>by obtain⟨k1,k2⟩:=nU hm (by omega);rw[k1,show(pT (gI b xs i r) y.1).length+1=(pT (gI b xs i r) (y.1+1)).length by rw[<- k2];simp,k2] at hw;exact hw.back)
            · exact h37
          · refine mB (i:=7) (h:=λ x36=>?_)
            refine cL (i:=3) (hq:=(cV (hc:=λ w1 hw=>nE (Ad (gI b xs i r) (k:=y.1) (by omega)) (y.1:Int) w1))) (h:=λ x32=>?_);refine aU ?_;((refine lZ (h:=λ x37=>?_);try (refine eG (λ h37=>?_))));refine Ri ?_;refine B8 ?_
            refine fC ((0,x37)) ?_ (hw1:=λ w hw=>by obtain⟨k1,k2⟩:=nU hm (by omega);rw[k1,show(pT (gI b xs i r) y.1).length+1=(pT (gI b xs i r) (y.1+1)).length by rw[<- k2];simp,k2] at hw;exact hw.back)
            · exact h37
        dsimp only[iA,List.map,List.cons_append,List.nil_append]
        refine fF ?_;refine uT ?_
        refine jG ((by exact(y.1+1,z.2))) ?_ (hw1:=λ w hw=>by exact hw.back)
        · first
           | exact⟨by omega,by have k2:=(nU hm (by omega)).2;simp only[];rw[<- k2,List.length_append];exact hx⟩
           | exact⟨by omega,by simp only[];rw[<- (oF hm).2];exact hx.2⟩
      · have hm:gI b xs i r y.1=none:=by
         first
          | (rw[Ee c24,if_neg (by omega)];done)
          | (rw[D1 hcv (by omega) c24];exact Up c28)
        refine oP ?_;refine uT ?_
        refine jG ((by exact(y.1+1,y.2))) ?_ (hw1:=λ w hw=>by(rw[(oF hm).1,(oF hm).2] at hw;exact hw.back))
        · first
           | exact⟨by omega,by have k2:=(nU hm (by omega)).2;simp only[];rw[<- k2,List.length_append];exact hx⟩
           | exact⟨by omega,by simp only[];rw[<- (oF hm).2];exact hx.2⟩
    · refine aX ?_;refine J2 ?_;refine aH ?_
      refine aZ (λ c28=>?_) (λ c28=>?_)
      · first
         | have hm:gI b xs i r y.1=some r:=by rw[Ee c24,if_pos (by omega)]
         | have hm:gI b xs i r y.1=some ((Kh n xs ys b (y.1:Int)).getD 0):=by rw[D1 hcv (by omega) c24];exact Vt c28
        refine eQ [29,30,31,32,33,34,35,36,37,38,39] (λ z:Nat×Option Addr×Nat=>[]) (λ z=>(pT (gI b xs i r) y.1).length+1<=z.2.2) (λ z=>[(x7,.cells ⟨[.int .i64 3,.int .i64 0,.int .i64 0,.int .u64 ((A2 (gI b xs i r) (y.1+1):Nat):Int),.slice z.2.1 (pT (gI b xs i r) (y.1+1)).length z.2.2,.int .u64 0,.string ⟨#[]⟩,.int .u64 0,.slice none 0 0,.int .i64 0,.int .i64 0,.int .i64 0,.int .i64 0,.int .i64 0]⟩ 47),(x6,.cells ⟨Nd.zero.cells⟩ 47),(x3,.cells ⟨n.cells⟩ 47)]) (λ z=>[]) (λ z=>[⟨z.2.1,aG (pT (gI b xs i r) (y.1+1)),z.2.2,37,1⟩]) (by decide) (λ _=>by exact rfl) ?_ (λ z f hx=>?_)
        · refine gR (.one 0 [] (.one 1 [] (.one 2 [] (.one 4 [] (.one 5 [] (.one 6 [] (.two 3 [5] (.one 9 [] (.one 7 [1,5] (.one 8 [] (.one 10 [] (.one 11 [] (.one 12 [] .nil)))))) 0 [] (.two 7 [1,5] (.one 3 [5] (.one 9 [] (.one 8 [] (.one 10 [] (.one 11 [] (.one 12 [] .nil)))))) 0 [] .nil)))))))) ?_
          refine mI ?_;refine aT ?_;refine mI ?_;refine aT ?_
          refine gT (E:=[3,7]) (by decide +kernel) ((.cons ?_ (.cons ?_ .nil)))
          · refine It (i:=3) (hq:=(cV (hc:=λ w1 hw=>nE (Ad (gI b xs i r) (k:=y.1) (by omega)) (y.1:Int) w1))) (h:=λ x32=>?_)
            refine aU ?_;refine cB (h:=λ x36=>?_);((refine lZ (h:=λ x37=>?_);try (refine eG (λ h37=>?_))));refine Ri ?_;refine B8 ?_
            refine fC ((0,x37)) ?_ (hw1:=λ w hw=>by obtain⟨k1,k2⟩:=nU hm (by omega);rw[k1,show(pT (gI b xs i r) y.1).length+1=(pT (gI b xs i r) (y.1+1)).length by rw[<- k2];simp,k2] at hw;exact hw.back)
            · exact h37
          · refine mB (i:=7) (h:=λ x36=>?_)
            refine cL (i:=3) (hq:=(cV (hc:=λ w1 hw=>nE (Ad (gI b xs i r) (k:=y.1) (by omega)) (y.1:Int) w1))) (h:=λ x32=>?_);refine aU ?_;((refine lZ (h:=λ x37=>?_);try (refine eG (λ h37=>?_))));refine Ri ?_;refine B8 ?_
            refine fC ((0,x37)) ?_ (hw1:=λ w hw=>by obtain⟨k1,k2⟩:=nU hm (by omega);rw[k1,show(pT (gI b xs i r) y.1).length+1=(pT (gI b xs i r) (y.1+1)).length by rw[<- k2];simp,k2] at hw;exact hw.back)
            · exact h37
        dsimp only[iA,List.map,List.cons_append,List.nil_append]
        refine fF ?_;refine uT ?_
        refine jG ((by exact(y.1+1,z.2))) ?_ (hw1:=λ w hw=>by exact hw.back)
        · first
           | exact⟨by omega,by have k2:=(nU hm (by omega)).2;simp only[];rw[<- k2,List.length_append];exact hx⟩
           | exact⟨by omega,by simp only[];rw[<- (oF hm).2];exact hx.2⟩
      · have hm:gI b xs i r y.1=none:=by
         first
          | (rw[Ee c24,if_neg (by omega)];done)
          | (rw[D1 hcv (by omega) c24];exact Up c28)
        refine oP ?_;refine uT ?_
        refine jG ((by exact(y.1+1,y.2))) ?_ (hw1:=λ w hw=>by(rw[(oF hm).1,(oF hm).2] at hw;exact hw.back))
        · first
           | exact⟨by omega,by have k2:=(nU hm (by omega)).2;simp only[];rw[<- k2,List.length_append];exact hx⟩
           | exact⟨by omega,by simp only[];rw[<- (oF hm).2];exact hx.2⟩
  · refine bR rfl ?_;refine oC ?_;refine J5 ?_
    refine aY Tryz.results244 (λ w hw=>?_)
    have hy:y.1=64:=by omega
    rw[hy] at hw hx ⊢
    generalize A2 (gI b xs i r) 64=B at hw ⊢
    generalize pT (gI b xs i r) 64=L at hw hx ⊢
    exact⟨y.2,rfl,hx.2,SF.frz hw.aV⟩
end
end

/- Branches: the reference's Inserted, Updated, Removed. -/
section
open Go.RowKit Go.Ct
theorem of_eq{m:Nat->Option Int}{b:Nat}{xs:List Int}(h:BV b xs/\∀k,k<64->qS b xs k=m k):A2 m 64=b/\pT m 64=xs:=by
 obtain⟨h1,h2⟩:=Ob 64 λ k hk=>(h.2 k hk).symm
 obtain⟨h3,h4⟩:=R6 h.1
 exact⟨h1.trans h3,h2.trans h4⟩
theorem pB{k:Nat}(b:Nat)(hk:k<64):dR b (k:Int)=b ||| 2^k:=by
 unfold dR;rw[if_pos (by omega),Int.toNat_natCast]
theorem sZ{k:Nat}(b:Nat)(hk:k<64):uU b (k:Int)=b ^^^ (b &&& 2^k):=by
 unfold uU;rw[if_pos (by omega),Int.toNat_natCast]
theorem oE{k:Nat}(b:Nat)(hk:k<64):rB b (k:Int)=gJ b k:=by
 unfold rB;rw[Int.toNat_natCast,Nat.min_eq_left (by omega)]
theorem pV{k:Nat}(b:Nat)(hk:k<64):pP b (k:Int)=b.testBit k:=by
 rw[tE b (by omega) (by omega),Int.toNat_natCast]
theorem Xy{b k:Nat}{xs:List Int}{r:Int}(h:BV b xs)(hk:k<64)(hb:pP b (k:Int)=false)(hr:1<=r):A2 (gI b xs k r) 64=dR b (k:Int)/\pT (gI b xs k r) 64=uY xs (rB b (k:Int)) r:=by
 rw[pV b hk] at hb
 rw[pB b hk,oE b hk]
 unfold gI
 rw[if_pos (by omega)]
 exact of_eq (Hr h hk hb hr)
theorem W5{b k:Nat}{xs:List Int}{r:Int}(h:BV b xs)(hk:k<64)(hb:pP b (k:Int)=true)(hr:1<=r):A2 (gI b xs k r) 64=b/\pT (gI b xs k r) 64=yN xs (rB b (k:Int)) r:=by
 rw[pV b hk] at hb
 rw[oE b hk]
 unfold gI
 rw[if_pos (by omega)]
 exact of_eq (R5 h hk hb hr)
theorem Xr{b k:Nat}{xs:List Int}(h:BV b xs)(hk:k<64)(hb:pP b (k:Int)=true):A2 (gI b xs k 0) 64=uU b (k:Int)/\pT (gI b xs k 0) 64=sC xs (rB b (k:Int)):=by
 rw[pV b hk] at hb
 rw[sZ b hk,oE b hk]
 unfold gI
 rw[if_neg (by omega)]
 exact of_eq (Te h hk hb)
section
variable{n:Nd}{xs:List Int}{ys:List Pr}{w:World}{b:Nat}
theorem Al{i:Int}(h:(Kh n xs ys b i).isSome=true):CV n xs ys/\pP b i=true:=by
 unfold Kh at h
 split at h
 ·assumption
 ·cases h
theorem Gt{i:Int}(h:(Kh n xs ys b i).isSome=false)(hcv:CV n xs ys):pP b i=false:=by
 unfold Kh at h
 split at h
 ·cases h
 ·rename_i hn
  cases hh:pP b i with
  | false=>rfl
  | true=>exact absurd ⟨hcv,hh⟩ hn
theorem H4(i r:Int)(hb:n.bm=(b:Int))(hb2:b<18446744073709551616)(hr:rX w n xs ys):Calls Tryz.prog 249 #[n.v,.int .i64 i,.int .i64 r] w (V3 w (j6 n xs ys b i r)):=by
 refine enter Tryz.func249 Tryz.ntmps249 rfl rfl (SF.s2 hr.br hr.pr) ?_
 simp only[cD]
 simp only[Nd.v,Nd.cells]
 refine J0 ?_;refine bK (λ x3=>?_);refine aJ (λ x6=>?_);refine iO ?_;refine Dy ?_;refine aN (cV (hc:=λ w1 hw=>nZ (n:=n) i hb hb2 (hr.fW hw.done))) (λ x13=>?_);refine aA ?_;refine aC (jH rf rfl) rfl ?_;refine aC (jH rf rfl) rfl ?_;refine J8 ?_;refine oC ?_;refine aD (c0 (V:=.bool) (hc:=λ w1 hw=>fo (n:=n) hb hb2 (hr.fW hw.done))) (λ x17 h17=>?_);refine Cb ?_
 (refine dX 19 (λ g19=>?_) (λ g19=>?_)<;>(first|refine aI ?_|(refine aE ?_;refine aA ?_)))
 all_goals (refine bY ?_;refine aA ?_)
 all_goals (first|refine aI ?_|(refine dX 22 (λ g22=>?_) (λ g22=>?_)<;>(first|refine aI ?_|(refine aE ?_;refine aA ?_))))
 all_goals (refine ma ?_;refine aA ?_)
 all_goals (first|refine aI ?_|(refine dX 26 (λ g26=>?_) (λ g26=>?_)<;>(first|refine aI ?_|(refine aE ?_;refine aA ?_))))
 all_goals (refine zJ ?_;refine aA ?_)
 all_goals (first|refine aI ?_|(refine dX 30 (λ g30=>?_) (λ g30=>?_)<;>(first|refine aI ?_|(refine aE ?_;refine aA ?_))))
 all_goals (refine ma ?_;refine aH ?_)
 all_goals
 refine aZ (λ c33=>?_) (λ c33=>?_)
 ·all_goals (refine J0 ?_;refine bM ?_;refine Bi ?_)
  all_goals
   refine aY Tryz.results249 (λ w hw=>?_)
   rw[show j6 n xs ys b i r=none from if_neg (by rintro ⟨k1,⟨k2,k3⟩,k4,k5⟩;clear hw;first|omega|exact absurd (Al g22).2 (by simp[k5])|exact absurd (h17.2 k1) (by simp_all))];exact⟨(none,0),rfl,Nat.le_refl _,(hw.Mg none).fin⟩
 ·try exact nv c33
  all_goals
   have hcv:=h17.1 (by simpa using g19)
   have hh:=Gt g22 hcv
   obtain⟨k,rfl⟩:=Int.eq_ofNat_of_zero_le (show 0<=i by omega)
   have hk:=Xy (hcv.bv hb hb2) (k:=k) (by omega) hh (r:=r) (by omega)
  all_goals (refine aX ?_;refine oC ?_;refine pD ?_;refine aD (cF (hc:=λ w1 hw=>by have:=Kk (w:=w1) k r (by omega) hcv hb hb2 (hr.fW hw.done);rw[hk.1,hk.2] at this;exact this)) (λ x38 h38=>?_);refine Bi ?_)
  all_goals
   refine aY Tryz.results249 (λ w hw=>?_)
   rw[show j6 n xs ys b (k:Int) r=some (dR b (k:Int),uY xs (rB b (k:Int)) r) from if_pos ⟨hcv,⟨by omega,by omega⟩,by omega,hh⟩];exact⟨x38,rfl,h38,hw.fin⟩
theorem L7(i r:Int)(hb:n.bm=(b:Int))(hb2:b<18446744073709551616)(hr:rX w n xs ys):Calls Tryz.prog 220 #[n.v,.int .i64 i,.int .i64 r] w (V3 w (j4 n xs ys b i r)):=by
 refine enter Tryz.func220 Tryz.ntmps220 rfl rfl (SF.s2 hr.br hr.pr) ?_
 simp only[cD]
 simp only[Nd.v,Nd.cells]
 refine J0 ?_;refine bK (λ x3=>?_);refine aJ (λ x6=>?_);refine iO ?_;refine Dy ?_;refine aN (cV (hc:=λ w1 hw=>nZ (n:=n) i hb hb2 (hr.fW hw.done))) (λ x13=>?_);refine aA ?_;refine aC (jH rf rfl) rfl ?_;refine aC (jH rf rfl) rfl ?_;refine J8 ?_;refine J2 ?_;refine Cb ?_
 (refine dX 18 (λ g18=>?_) (λ g18=>?_)<;>(first|refine aI ?_|(refine aE ?_;refine aA ?_)))
 all_goals (refine ma ?_;refine aH ?_)
 all_goals
 refine aZ (λ c21=>?_) (λ c21=>?_)
 ·all_goals (refine J0 ?_;refine bM ?_;refine Bi ?_)
  all_goals
   refine aY Tryz.results220 (λ w hw=>?_)
   rw[show j4 n xs ys b i r=none from if_neg (by rintro ⟨k1,k4,k5⟩;clear hw;first|omega|exact absurd (Gt (by simpa using g18) k1) (by simp[k5]))];exact⟨(none,0),rfl,Nat.le_refl _,(hw.Mg none).fin⟩
 ·try exact nv c21
  all_goals
   have hc:=Al (by simpa using g18)
   have hcv:=hc.1
   have hh:=hc.2
   obtain⟨q1,q2,_,_⟩:=rT hh
   obtain⟨k,rfl⟩:=Int.eq_ofNat_of_zero_le q1
   have hk:=W5 (hcv.bv hb hb2) (k:=k) (by omega) hh (r:=r) (by omega)
  all_goals (refine aX ?_;refine oC ?_;refine pD ?_;refine aD (cF (hc:=λ w1 hw=>by have:=Kk (w:=w1) k r (by omega) hcv hb hb2 (hr.fW hw.done);rw[hk.1,hk.2] at this;exact this)) (λ x26 h26=>?_);refine Bi ?_)
  all_goals
   refine aY Tryz.results220 (λ w hw=>?_)
   rw[show j4 n xs ys b (k:Int) r=some (b,yN xs (rB b (k:Int)) r) from if_pos ⟨hcv,by omega,hh⟩];exact⟨x26,rfl,h26,hw.fin⟩
theorem Mj(i:Int)(hb:n.bm=(b:Int))(hb2:b<18446744073709551616)(hr:rX w n xs ys):Calls Tryz.prog 252 #[n.v,.int .i64 i] w (V3 w (j9 n xs ys b i)):=by
 refine enter Tryz.func252 Tryz.ntmps252 rfl rfl (SF.s2 hr.br hr.pr) ?_
 simp only[cD]
 simp only[Nd.v,Nd.cells]
 refine J0 ?_;refine bK (λ x2=>?_);refine aJ (λ x4=>?_);refine iO ?_;refine Dy ?_;refine aN (cV (hc:=λ w1 hw=>nZ (n:=n) i hb hb2 (hr.fW hw.done))) (λ x11=>?_);refine aA ?_;refine aC (jH rf rfl) rfl ?_;refine aC (jH rf rfl) rfl ?_;refine J8 ?_;refine J2 ?_;refine oU ?_
 refine aZ (λ c15=>?_) (λ c15=>?_)
 ·refine J0 ?_;refine bM ?_;refine Bi ?_
  refine aY Tryz.results252 (λ w hw=>?_)
  rw[show j9 n xs ys b i=none from if_neg (by rintro ⟨k1,k5⟩;clear hw;exact absurd (Gt c15 k1) (by simp[k5]))];exact⟨(none,0),rfl,Nat.le_refl _,(hw.Mg none).fin⟩
 ·have hc:=Al c15
  have hcv:=hc.1
  have hh:=hc.2
  obtain⟨q1,q2,_,_⟩:=rT hh
  obtain⟨k,rfl⟩:=Int.eq_ofNat_of_zero_le q1
  have hk:=Xr (hcv.bv hb hb2) (k:=k) (by omega) hh
  refine aX ?_;refine Dy ?_;refine aD (cF (hc:=λ w1 hw=>by have:=Kk (w:=w1) k 0 (by omega) hcv hb hb2 (hr.fW hw.done);rw[hk.1,hk.2] at this;exact this)) (λ x19 h19=>?_);refine Bi ?_
  refine aY Tryz.results252 (λ w hw=>?_)
  rw[show j9 n xs ys b (k:Int)=some (uU b (k:Int),sC xs (rB b (k:Int))) from if_pos ⟨hcv,hh⟩];exact⟨x19,rfl,h19,hw.fin⟩
end
end

end Go.Proofs.YtbajmaoegmbfgaaGreat
