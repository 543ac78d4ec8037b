/- Branches: the reference's build, Inserted, Updated, Removed. -/
import Derived.Test.YtpobgmdalcpomaaGreatGPaX
import Derived.Test.YtpobgmdalcpomaaGreatGJoin
import Derived.Test.YtpobgmdalcpomaaGreatGAr9
import Derived.Test.YtpobgmdalcpomaaGreatGRs0

set_option linter.unusedSimpArgs false
set_option linter.unusedVariables false
namespace Go.Proofs.YtpobgmdalcpomaaGreat
section
open Go.RowKit Go.Ct
def gI(b:Nat)(xs:List Int)(i:Nat)(r:Int):Nat->Option Int:=Lh (rY b xs) i (if 0<r then some r else none)
theorem nK{m:Nat->Option Int}{k:Nat}{v:Int}(h:m k=some v)(hk:k<64):eA (Al m k) (k:Int)=Al m (k+1)/\qI m k++[v]=qI m (k+1):=by
 simp only[Al,qI,h,eA,Option.isSome_some,if_true,Option.toList,Int.toNat_natCast,and_true]
 exact if_pos (by omega)
theorem jG{m:Nat->Option Int}{k:Nat}(h:m k=none):Al m k=Al m (k+1)/\qI m k=qI m (k+1):=by
 simp[Al,qI,h]
theorem Aa(m:Nat->Option Int){k:Nat}(hk:k<=64):Al m k<18446744073709551616:=Nat.lt_of_lt_of_le (Wm m k) (Nat.pow_le_pow_right (n:=2) (by decide) hk)
theorem R5(m:Nat->Option Int):∀k,(qI m k).length<=k
 | 0=>Nat.le_refl _
 | k+1=>by have:=R5 m k;simp only[qI,List.length_append];cases m k<;>simp<;>omega
section
variable{n:Nd}{xs:List Int}{ys:List Pr}{w:World}{b:Nat}
theorem Rn(hcv:CV n xs ys){k:Nat}(hk:k<64):Kk n xs ys b (k:Int)=rY b xs k:=by
 unfold Kk rY
 have h1:oW b (k:Int)=b.testBit k:=by rw[sP b (by omega) (by omega),Int.toNat_natCast]
 have h2:qD b (k:Int)=hJ b k:=by unfold qD;rw[Int.toNat_natCast,Nat.min_eq_left (by omega)]
 rw[h1,h2]
 by_cases h:b.testBit k=true<;>simp[h,hcv]
theorem C0{i k:Nat}{r:Int}(hcv:CV n xs ys)(hk:k<64)(h:(k:Int)≠(i:Int)):gI b xs i r k=Kk n xs ys b (k:Int):=by
 rw[Rn hcv hk]
 exact if_neg (by omega)
theorem C9{i k:Nat}{r:Int}(h:(k:Int)=(i:Int)):gI b xs i r k=if 0<r then some r else none:=if_pos (by omega)
theorem Th{o:Option Int}(h:o.isSome=true):o=some (o.getD 0):=by cases o<;>simp_all
theorem Ru{o:Option Int}(h:o.isSome=false):o=none:=by cases o<;>simp_all
set_option maxHeartbeats 800000 in
theorem Jf(i:Nat)(r:Int)(_hi:i<64)(hcv:CV n xs ys)(hb:n.bm=(b:Int))(hb2:b<18446744073709551616)(hr:pQ w n xs ys) :
    Calls Tryz.prog 135 #[n.v,.int .i64 (i:Int),.int .i64 r] w λ e w'=>∃x:Option Addr×Nat,e=.returned (cn (Al (gI b xs i r) 64) (qI (gI b xs i r) 64) x).v/\(qI (gI b xs i r) 64).length<=x.2/\SF w [] [] [] [(x.1,aJ (qI (gI b xs i r) 64))] [] w':=by
  have e1:=hr.brN
  refine enter Tryz.func135 Tryz.ntmps135 rfl rfl (SF.s2 hr.br hr.pr) ?_
  simp only[dB]
  simp only[Nd.v,Nd.cells]
  all_goals (refine J0 ?_;refine bM (λ x3=>?_);refine aY (λ x6=>?_);refine aN ?_;refine J0 ?_;refine bV ?_;refine aY (λ x7=>?_);refine J5 ?_;refine aT ?_;refine Cq ?_)
  all_goals
   refine lO [8,9,10,12,13,14,15,16,17,18,19,20,21,22,23,24,25,26,27,28,29,30,31,32,33,34,35,36,37,38,39] (λ y:Nat×Option Addr×Nat=>[(8,.int .i64 ((y.1:Nat):Int))]) (λ y=>y.1<=64/\(qI (gI b xs i r) y.1).length<=y.2.2) (λ y=>[(x7,.cells ⟨[.int .i64 3,.int .i64 0,.int .i64 0,.int .u64 ((Al (gI b xs i r) y.1:Nat):Int),.slice y.2.1 (qI (gI b xs i r) y.1).length y.2.2,.int .u64 0,.string ⟨#[]⟩,.int .u64 0,.slice none 0 0,.int .i64 0,.int .i64 0,.int .i64 0,.int .i64 0,.int .i64 0]⟩ 59),(x6,.cells ⟨Nd.zero.cells⟩ 59),(x3,.cells ⟨n.cells⟩ 59)]) (λ _=>_) (λ y=>[⟨y.2.1,aJ (qI (gI b xs i r) y.1),y.2.2,52,1⟩]) (λ y=>64-y.1) ((0,none,0)) (⟨Nat.zero_le _,Nat.le_refl _⟩) (λ y f hx=>?_) (hw0:=λ w hw=>(hw.jK 52 1).back)
   dsimp only[gW,List.map,List.cons_append,List.nil_append]
   have hll:=R5 (gI b xs i r) y.1
   all_goals (refine jS ?_;refine uQ ?_)
   all_goals
    refine bF (λ c13=>?_) (λ c13=>?_)
    · try exact nv c13
      all_goals (refine oD ?_;refine rK ?_;(refine aF (cV (hc:=λ w1 hw=>nI (n:=n) (y.1:Int) hb hb2 (hr.gA hw.done))) (λ x19=>?_);try (refine aB (λ h19=>?_)));refine aA ?_;refine aH (jI rf rfl) rfl ?_;refine aH (jI rf rfl) rfl ?_;refine J8 ?_;refine Cy ?_;refine tE ?_)
      all_goals
       refine bF (λ c24=>?_) (λ c24=>?_)
       · try exact nv c24
         all_goals (refine Fk ?_;refine xG ?_;refine J8 ?_;refine J2 ?_;refine aN ?_)
         all_goals
          refine bF (λ c28=>?_) (λ c28=>?_)
          · try exact nv c28
            all_goals
             first
              | have hm:gI b xs i r y.1=some r:=by rw[C9 c24,if_pos (by omega)]
              | have hm:gI b xs i r y.1=some ((Kk n xs ys b (y.1:Int)).getD 0):=by rw[C0 hcv (by omega) c24];exact Th c28
            all_goals
             refine fH [29,30,31,32,33,34,35,36,37,38,39] (λ z:Nat×Option Addr×Nat=>[]) (λ z=>(qI (gI b xs i r) y.1).length+1<=z.2.2) (λ z=>[(x7,.cells ⟨[.int .i64 3,.int .i64 0,.int .i64 0,.int .u64 ((Al (gI b xs i r) (y.1+1):Nat):Int),.slice z.2.1 (qI (gI b xs i r) (y.1+1)).length z.2.2,.int .u64 0,.string ⟨#[]⟩,.int .u64 0,.slice none 0 0,.int .i64 0,.int .i64 0,.int .i64 0,.int .i64 0,.int .i64 0]⟩ 59),(x6,.cells ⟨Nd.zero.cells⟩ 59),(x3,.cells ⟨n.cells⟩ 59)]) (λ z=>[]) (λ z=>[⟨z.2.1,aJ (qI (gI b xs i r) (y.1+1)),z.2.2,52,1⟩]) (by decide) (λ _=>by exact rfl) ?_ (λ z f hx=>?_)
             · refine gU (.one 0 [] (.one 1 [] (.one 2 [] (.one 4 [] (.one 5 [] (.one 6 [] (.two 3 [5] (.one 9 [] (.one 7 [1,5] (.one 8 [] (.one 10 [] (.one 11 [] (.one 12 [] .nil)))))) 0 [] (.two 7 [1,5] (.one 3 [5] (.one 9 [] (.one 8 [] (.one 10 [] (.one 11 [] (.one 12 [] .nil)))))) 0 [] .nil)))))))) ?_
               all_goals (refine jP ?_;refine aL ?_;refine jP ?_;refine aL ?_)
               all_goals
                refine gS (E:=[3,7]) (by decide +kernel) ((.cons ?_ (.cons ?_ .nil)))
                · (refine mI (i:=3) (hq:=(cV (hc:=λ w1 hw=>mR (Aa (gI b xs i r) (k:=y.1) (by omega)) (y.1:Int) w1))) (h:=λ x32=>?_);try (refine aK (λ h32=>?_)))
                  all_goals (refine aX ?_;refine bB (h:=λ x36=>?_);((refine cR (h:=λ x37=>?_);try (refine aK (λ h37=>?_))));refine Q2 ?_;refine wW ?_)
                  all_goals
                   refine fM ((0,x37)) ?_ (hw1:=λ w hw=>by obtain⟨k1,k2⟩:=nK hm (by omega);rw[k1,show(qI (gI b xs i r) y.1).length+1=(qI (gI b xs i r) (y.1+1)).length by rw[<- k2];simp,k2] at hw;exact hw.back)
                   · exact h37
                · refine lQ (i:=7) (h:=λ x36=>?_)
                  all_goals (((refine bA (i:=3) (hq:=(cV (hc:=λ w1 hw=>mR (Aa (gI b xs i r) (k:=y.1) (by omega)) (y.1:Int) w1))) (h:=λ x32=>?_);try (refine aK (λ h32=>?_))));refine aX ?_;((refine cR (h:=λ x37=>?_);try (refine aK (λ h37=>?_))));refine Q2 ?_;refine wW ?_)
                  all_goals
                   refine fM ((0,x37)) ?_ (hw1:=λ w hw=>by obtain⟨k1,k2⟩:=nK hm (by omega);rw[k1,show(qI (gI b xs i r) y.1).length+1=(qI (gI b xs i r) (y.1+1)).length by rw[<- k2];simp,k2] at hw;exact hw.back)
                   · exact h37
             dsimp only[gW,List.map,List.cons_append,List.nil_append]
            all_goals (refine eV ?_;refine uH ?_)
            all_goals
             refine gY ((by first|exact(y.1+1,z.2)|exact(y.1+1,y.2))) ?_ (hw1:=λ w hw=>by first|(rw[(jG hm).1,(jG hm).2] at hw;exact hw.back)|exact hw.back)
             · first
                | exact⟨by omega,by have k2:=(nK hm (by omega)).2;simp only[];rw[<- k2,List.length_append];exact hx⟩
                | exact⟨by omega,by simp only[];rw[<- (jG hm).2];exact hx.2⟩
          · try exact nv c28
            all_goals
             have hm:gI b xs i r y.1=none:=by
              first
               | (rw[C9 c24,if_neg (by omega)];done)
               | (rw[C0 hcv (by omega) c24];exact Ru c28)
            all_goals (refine mN ?_;refine uH ?_)
            all_goals
             refine gY ((by first|exact(y.1+1,z.2)|exact(y.1+1,y.2))) ?_ (hw1:=λ w hw=>by first|(rw[(jG hm).1,(jG hm).2] at hw;exact hw.back)|exact hw.back)
             · first
                | exact⟨by omega,by have k2:=(nK hm (by omega)).2;simp only[];rw[<- k2,List.length_append];exact hx⟩
                | exact⟨by omega,by simp only[];rw[<- (jG hm).2];exact hx.2⟩
       · try exact nv c24
         all_goals (refine aZ ?_;refine J2 ?_;refine aN ?_)
         all_goals
          refine bF (λ c28=>?_) (λ c28=>?_)
          · try exact nv c28
            all_goals
             first
              | have hm:gI b xs i r y.1=some r:=by rw[C9 c24,if_pos (by omega)]
              | have hm:gI b xs i r y.1=some ((Kk n xs ys b (y.1:Int)).getD 0):=by rw[C0 hcv (by omega) c24];exact Th c28
            all_goals
             refine fH [29,30,31,32,33,34,35,36,37,38,39] (λ z:Nat×Option Addr×Nat=>[]) (λ z=>(qI (gI b xs i r) y.1).length+1<=z.2.2) (λ z=>[(x7,.cells ⟨[.int .i64 3,.int .i64 0,.int .i64 0,.int .u64 ((Al (gI b xs i r) (y.1+1):Nat):Int),.slice z.2.1 (qI (gI b xs i r) (y.1+1)).length z.2.2,.int .u64 0,.string ⟨#[]⟩,.int .u64 0,.slice none 0 0,.int .i64 0,.int .i64 0,.int .i64 0,.int .i64 0,.int .i64 0]⟩ 59),(x6,.cells ⟨Nd.zero.cells⟩ 59),(x3,.cells ⟨n.cells⟩ 59)]) (λ z=>[]) (λ z=>[⟨z.2.1,aJ (qI (gI b xs i r) (y.1+1)),z.2.2,52,1⟩]) (by decide) (λ _=>by exact rfl) ?_ (λ z f hx=>?_)
             · refine gU (.one 0 [] (.one 1 [] (.one 2 [] (.one 4 [] (.one 5 [] (.one 6 [] (.two 3 [5] (.one 9 [] (.one 7 [1,5] (.one 8 [] (.one 10 [] (.one 11 [] (.one 12 [] .nil)))))) 0 [] (.two 7 [1,5] (.one 3 [5] (.one 9 [] (.one 8 [] (.one 10 [] (.one 11 [] (.one 12 [] .nil)))))) 0 [] .nil)))))))) ?_
               all_goals (refine jP ?_;refine aL ?_;refine jP ?_;refine aL ?_)
               all_goals
                refine gS (E:=[3,7]) (by decide +kernel) ((.cons ?_ (.cons ?_ .nil)))
                · (refine mI (i:=3) (hq:=(cV (hc:=λ w1 hw=>mR (Aa (gI b xs i r) (k:=y.1) (by omega)) (y.1:Int) w1))) (h:=λ x32=>?_);try (refine aK (λ h32=>?_)))
                  all_goals (refine aX ?_;refine bB (h:=λ x36=>?_);((refine cR (h:=λ x37=>?_);try (refine aK (λ h37=>?_))));refine Q2 ?_;refine wW ?_)
                  all_goals
                   refine fM ((0,x37)) ?_ (hw1:=λ w hw=>by obtain⟨k1,k2⟩:=nK hm (by omega);rw[k1,show(qI (gI b xs i r) y.1).length+1=(qI (gI b xs i r) (y.1+1)).length by rw[<- k2];simp,k2] at hw;exact hw.back)
                   · exact h37
                · refine lQ (i:=7) (h:=λ x36=>?_)
                  all_goals (((refine bA (i:=3) (hq:=(cV (hc:=λ w1 hw=>mR (Aa (gI b xs i r) (k:=y.1) (by omega)) (y.1:Int) w1))) (h:=λ x32=>?_);try (refine aK (λ h32=>?_))));refine aX ?_;((refine cR (h:=λ x37=>?_);try (refine aK (λ h37=>?_))));refine Q2 ?_;refine wW ?_)
                  all_goals
                   refine fM ((0,x37)) ?_ (hw1:=λ w hw=>by obtain⟨k1,k2⟩:=nK hm (by omega);rw[k1,show(qI (gI b xs i r) y.1).length+1=(qI (gI b xs i r) (y.1+1)).length by rw[<- k2];simp,k2] at hw;exact hw.back)
                   · exact h37
             dsimp only[gW,List.map,List.cons_append,List.nil_append]
            all_goals (refine eV ?_;refine uH ?_)
            all_goals
             refine gY ((by first|exact(y.1+1,z.2)|exact(y.1+1,y.2))) ?_ (hw1:=λ w hw=>by first|(rw[(jG hm).1,(jG hm).2] at hw;exact hw.back)|exact hw.back)
             · first
                | exact⟨by omega,by have k2:=(nK hm (by omega)).2;simp only[];rw[<- k2,List.length_append];exact hx⟩
                | exact⟨by omega,by simp only[];rw[<- (jG hm).2];exact hx.2⟩
          · try exact nv c28
            all_goals
             have hm:gI b xs i r y.1=none:=by
              first
               | (rw[C9 c24,if_neg (by omega)];done)
               | (rw[C0 hcv (by omega) c24];exact Ru c28)
            all_goals (refine mN ?_;refine uH ?_)
            all_goals
             refine gY ((by first|exact(y.1+1,z.2)|exact(y.1+1,y.2))) ?_ (hw1:=λ w hw=>by first|(rw[(jG hm).1,(jG hm).2] at hw;exact hw.back)|exact hw.back)
             · first
                | exact⟨by omega,by have k2:=(nK hm (by omega)).2;simp only[];rw[<- k2,List.length_append];exact hx⟩
                | exact⟨by omega,by simp only[];rw[<- (jG hm).2];exact hx.2⟩
    · try exact nv c13
      all_goals (refine bQ rfl ?_;refine iU ?_;refine J5 ?_)
      all_goals
       refine bH Tryz.results135 (λ w hw=>?_)
       have hy:y.1=64:=by omega
       rw[hy] at hw hx ⊢
       generalize Al (gI b xs i r) 64=B at hw ⊢
       generalize qI (gI b xs i r) 64=L at hw hx ⊢
       exact⟨y.2,rfl,hx.2,SF.z4 hw.aV⟩
end
end

/- Branches: the reference's Inserted, Updated, Removed. -/
section
open Go.RowKit Go.Ct
theorem of_eq{m:Nat->Option Int}{b:Nat}{xs:List Int}(h:BV b xs/\∀k,k<64->rY b xs k=m k):Al m 64=b/\qI m 64=xs:=by
 obtain⟨h1,h2⟩:=L3 64 λ k hk=>(h.2 k hk).symm
 obtain⟨h3,h4⟩:=ao h.1
 exact⟨h1.trans h3,h2.trans h4⟩
theorem oS{k:Nat}(b:Nat)(hk:k<64):eA b (k:Int)=b ||| 2^k:=by
 unfold eA;rw[if_pos (by omega),Int.toNat_natCast]
theorem rP{k:Nat}(b:Nat)(hk:k<64):vJ b (k:Int)=b ^^^ (b &&& 2^k):=by
 unfold vJ;rw[if_pos (by omega),Int.toNat_natCast]
theorem nF{k:Nat}(b:Nat)(hk:k<64):qD b (k:Int)=hJ b k:=by
 unfold qD;rw[Int.toNat_natCast,Nat.min_eq_left (by omega)]
theorem oX{k:Nat}(b:Nat)(hk:k<64):oW b (k:Int)=b.testBit k:=by
 rw[sP b (by omega) (by omega),Int.toNat_natCast]
theorem U9{b k:Nat}{xs:List Int}{r:Int}(h:BV b xs)(hk:k<64)(hb:oW b (k:Int)=false)(hr:1<=r):Al (gI b xs k r) 64=eA b (k:Int)/\qI (gI b xs k r) 64=vE xs (qD b (k:Int)) r:=by
 rw[oX b hk] at hb
 rw[oS b hk,nF b hk]
 unfold gI
 rw[if_pos (by omega)]
 exact of_eq (D3 h hk hb hr)
theorem U0{b k:Nat}{xs:List Int}{r:Int}(h:BV b xs)(hk:k<64)(hb:oW b (k:Int)=true)(hr:1<=r):Al (gI b xs k r) 64=b/\qI (gI b xs k r) 64=xZ xs (qD b (k:Int)) r:=by
 rw[oX b hk] at hb
 rw[nF b hk]
 unfold gI
 rw[if_pos (by omega)]
 exact of_eq (O9 h hk hb hr)
theorem V1{b k:Nat}{xs:List Int}(h:BV b xs)(hk:k<64)(hb:oW b (k:Int)=true):Al (gI b xs k 0) 64=vJ b (k:Int)/\qI (gI b xs k 0) 64=rG xs (qD b (k:Int)):=by
 rw[oX b hk] at hb
 rw[rP b hk,nF b hk]
 unfold gI
 rw[if_neg (by omega)]
 exact of_eq (Pj h hk hb)
section
variable{n:Nd}{xs:List Int}{ys:List Pr}{w:World}{b:Nat}
theorem zI{i:Int}(h:(Kk n xs ys b i).isSome=true):CV n xs ys/\oW b i=true:=by
 unfold Kk at h
 split at h
 ·assumption
 ·cases h
theorem D6{i:Int}(h:(Kk n xs ys b i).isSome=false)(hcv:CV n xs ys):oW b i=false:=by
 unfold Kk at h
 split at h
 ·cases h
 ·rename_i hn
  cases hh:oW b i with
  | false=>rfl
  | true=>exact absurd ⟨hcv,hh⟩ hn
theorem G3(i r:Int)(hb:n.bm=(b:Int))(hb2:b<18446744073709551616)(hr:pQ w n xs ys):Calls Tryz.prog 140 #[n.v,.int .i64 i,.int .i64 r] w (Vk w (cm n xs ys b i r)):=by
 refine enter Tryz.func140 Tryz.ntmps140 rfl rfl (SF.s2 hr.br hr.pr) ?_
 simp only[dB]
 simp only[Nd.v,Nd.cells]
 all_goals (refine J0 ?_;refine bM (λ x3=>?_);refine aY (λ x6=>?_);refine iI ?_;refine rK ?_;(refine aF (cV (hc:=λ w1 hw=>nI (n:=n) i hb hb2 (hr.gA hw.done))) (λ x13=>?_);try (refine aB (λ h13=>?_)));refine aA ?_;refine aH (jI rf rfl) rfl ?_;refine aH (jI rf rfl) rfl ?_;refine J8 ?_;refine iU ?_;(refine aF (c0 (V:=.bool) (hc:=λ w1 hw=>Zi (n:=n) hb hb2 (hr.gA hw.done))) (λ x17=>?_);try (refine aB (λ h17=>?_)));refine As ?_)
 all_goals (first|refine aG ?_|(refine aC ?_;refine aA ?_)|(refine dG 19 (λ g19=>?_) (λ g19=>?_)<;>(first|refine aG ?_|(refine aC ?_;refine aA ?_))))
 all_goals (refine cH ?_;refine aA ?_)
 all_goals (first|refine aG ?_|(refine aC ?_;refine aA ?_)|(refine dG 22 (λ g22=>?_) (λ g22=>?_)<;>(first|refine aG ?_|(refine aC ?_;refine aA ?_))))
 all_goals (refine nh ?_;refine aA ?_)
 all_goals (first|refine aG ?_|(refine aC ?_;refine aA ?_)|(refine dG 26 (λ g26=>?_) (λ g26=>?_)<;>(first|refine aG ?_|(refine aC ?_;refine aA ?_))))
 all_goals (refine xV ?_;refine aA ?_)
 all_goals (first|refine aG ?_|(refine aC ?_;refine aA ?_)|(refine dG 30 (λ g30=>?_) (λ g30=>?_)<;>(first|refine aG ?_|(refine aC ?_;refine aA ?_))))
 all_goals (refine nh ?_;refine aN ?_)
 all_goals
 refine bF (λ c33=>?_) (λ c33=>?_)
 ·try exact nv c33
  all_goals (refine J0 ?_;refine bV ?_;refine Cw ?_)
  all_goals
   refine bH Tryz.results140 (λ w hw=>?_)
   rw[show cm n xs ys b i r=none from if_neg (by rintro ⟨k1,⟨k2,k3⟩,k4,k5⟩;clear hw;first|omega|exact absurd (zI g22).2 (by simp[k5])|exact absurd (h17.2 k1) (by simp_all))];exact⟨(none,0),rfl,Nat.le_refl _,(hw.Jn none).fin⟩
 ·try exact nv c33
  all_goals
   have hcv:=h17.1 (by simpa using g19)
   have hh:=D6 g22 hcv
   obtain⟨k,rfl⟩:=Int.eq_ofNat_of_zero_le (show 0<=i by omega)
   have hk:=U9 (hcv.bv hb hb2) (k:=k) (by omega) hh (r:=r) (by omega)
  all_goals (refine aZ ?_;refine iU ?_;refine oI ?_;(refine aF (cF (hc:=λ w1 hw=>by have:=Jf (w:=w1) k r (by omega) hcv hb hb2 (hr.gA hw.done);rw[hk.1,hk.2] at this;exact this)) (λ x38=>?_);try (refine aB (λ h38=>?_)));refine Cw ?_)
  all_goals
   refine bH Tryz.results140 (λ w hw=>?_)
   rw[show cm n xs ys b (k:Int) r=some (eA b (k:Int),vE xs (qD b (k:Int)) r) from if_pos ⟨hcv,⟨by omega,by omega⟩,by omega,hh⟩];exact⟨x38,rfl,h38,hw.fin⟩
theorem Iy(i r:Int)(hb:n.bm=(b:Int))(hb2:b<18446744073709551616)(hr:pQ w n xs ys):Calls Tryz.prog 113 #[n.v,.int .i64 i,.int .i64 r] w (Vk w (cr n xs ys b i r)):=by
 refine enter Tryz.func113 Tryz.ntmps113 rfl rfl (SF.s2 hr.br hr.pr) ?_
 simp only[dB]
 simp only[Nd.v,Nd.cells]
 all_goals (refine J0 ?_;refine bM (λ x3=>?_);refine aY (λ x6=>?_);refine iI ?_;refine rK ?_;(refine aF (cV (hc:=λ w1 hw=>nI (n:=n) i hb hb2 (hr.gA hw.done))) (λ x13=>?_);try (refine aB (λ h13=>?_)));refine aA ?_;refine aH (jI rf rfl) rfl ?_;refine aH (jI rf rfl) rfl ?_;refine J8 ?_;refine J2 ?_;refine As ?_)
 all_goals (first|refine aG ?_|(refine aC ?_;refine aA ?_)|(refine dG 18 (λ g18=>?_) (λ g18=>?_)<;>(first|refine aG ?_|(refine aC ?_;refine aA ?_))))
 all_goals (refine nh ?_;refine aN ?_)
 all_goals
 refine bF (λ c21=>?_) (λ c21=>?_)
 ·try exact nv c21
  all_goals (refine J0 ?_;refine bV ?_;refine Cw ?_)
  all_goals
   refine bH Tryz.results113 (λ w hw=>?_)
   rw[show cr n xs ys b i r=none from if_neg (by rintro ⟨k1,k4,k5⟩;clear hw;first|omega|exact absurd (D6 (by simpa using g18) k1) (by simp[k5]))];exact⟨(none,0),rfl,Nat.le_refl _,(hw.Jn none).fin⟩
 ·try exact nv c21
  all_goals
   have hc:=zI (by simpa using g18)
   have hcv:=hc.1
   have hh:=hc.2
   obtain⟨q1,q2,_,_⟩:=rI hh
   obtain⟨k,rfl⟩:=Int.eq_ofNat_of_zero_le q1
   have hk:=U0 (hcv.bv hb hb2) (k:=k) (by omega) hh (r:=r) (by omega)
  all_goals (refine aZ ?_;refine iU ?_;refine oI ?_;(refine aF (cF (hc:=λ w1 hw=>by have:=Jf (w:=w1) k r (by omega) hcv hb hb2 (hr.gA hw.done);rw[hk.1,hk.2] at this;exact this)) (λ x26=>?_);try (refine aB (λ h26=>?_)));refine Cw ?_)
  all_goals
   refine bH Tryz.results113 (λ w hw=>?_)
   rw[show cr n xs ys b (k:Int) r=some (b,xZ xs (qD b (k:Int)) r) from if_pos ⟨hcv,by omega,hh⟩];exact⟨x26,rfl,h26,hw.fin⟩
theorem K2(i:Int)(hb:n.bm=(b:Int))(hb2:b<18446744073709551616)(hr:pQ w n xs ys):Calls Tryz.prog 143 #[n.v,.int .i64 i] w (Vk w (cf n xs ys b i)):=by
 refine enter Tryz.func143 Tryz.ntmps143 rfl rfl (SF.s2 hr.br hr.pr) ?_
 simp only[dB]
 simp only[Nd.v,Nd.cells]
 all_goals (refine J0 ?_;refine bM (λ x2=>?_);refine aY (λ x4=>?_);refine iI ?_;refine rK ?_;(refine aF (cV (hc:=λ w1 hw=>nI (n:=n) i hb hb2 (hr.gA hw.done))) (λ x11=>?_);try (refine aB (λ h11=>?_)));refine aA ?_;refine aH (jI rf rfl) rfl ?_;refine aH (jI rf rfl) rfl ?_;refine J8 ?_;refine J2 ?_;refine kD ?_)
 all_goals
 refine bF (λ c15=>?_) (λ c15=>?_)
 ·try exact nv c15
  all_goals (refine J0 ?_;refine bV ?_;refine Cw ?_)
  all_goals
   refine bH Tryz.results143 (λ w hw=>?_)
   rw[show cf n xs ys b i=none from if_neg (by rintro ⟨k1,k5⟩;clear hw;exact absurd (D6 c15 k1) (by simp[k5]))];exact⟨(none,0),rfl,Nat.le_refl _,(hw.Jn none).fin⟩
 ·try exact nv c15
  all_goals
   have hc:=zI c15
   have hcv:=hc.1
   have hh:=hc.2
   obtain⟨q1,q2,_,_⟩:=rI hh
   obtain⟨k,rfl⟩:=Int.eq_ofNat_of_zero_le q1
   have hk:=V1 (hcv.bv hb hb2) (k:=k) (by omega) hh
  all_goals (refine aZ ?_;refine rK ?_;(refine aF (cF (hc:=λ w1 hw=>by have:=Jf (w:=w1) k 0 (by omega) hcv hb hb2 (hr.gA hw.done);rw[hk.1,hk.2] at this;exact this)) (λ x19=>?_);try (refine aB (λ h19=>?_)));refine Cw ?_)
  all_goals
   refine bH Tryz.results143 (λ w hw=>?_)
   rw[show cf n xs ys b (k:Int)=some (vJ b (k:Int),rG xs (qD b (k:Int))) from if_pos ⟨hcv,hh⟩];exact⟨x19,rfl,h19,hw.fin⟩
end
end

/- States are compared. -/
end Go.Proofs.YtpobgmdalcpomaaGreat
namespace Go.Ct
section
theorem w7{L1 L2:List aQ}(h:L1.length=L2.length):L1.map aQ.c=L2.map aQ.c↔∀i,i<L1.length->(L1.getD i aQ.zero).c=(L2.getD i aQ.zero).c:=by
 constructor
 ·intro e i hi
  have h1:(L1.map aQ.c)[i]?=(L2.map aQ.c)[i]?:=by rw[e]
  rw[List.getElem?_map,List.getElem?_map,List.getElem?_eq_getElem hi,List.getElem?_eq_getElem (h▸hi)] at h1
  rw[gdg,gdg,List.getElem?_eq_getElem hi,List.getElem?_eq_getElem (h▸hi)]
  simpa using h1
 ·intro e
  refine List.ext_getElem? λ i=>?_
  rw[List.getElem?_map,List.getElem?_map]
  by_cases hi:i<L1.length
  ·have h1:=e i hi
   rw[gdg,gdg,List.getElem?_eq_getElem hi,List.getElem?_eq_getElem (h▸hi)] at h1
   rw[List.getElem?_eq_getElem hi,List.getElem?_eq_getElem (h▸hi)]
   simpa using h1
  ·rw[List.getElem?_eq_none (by omega),List.getElem?_eq_none (by omega)]
end
end Go.Ct
namespace Go.Proofs.YtpobgmdalcpomaaGreat
section
open Go.RowKit Go.Ct
theorem Jg(v:Int)(n:Nat)(w:World)(h0:0<n)(h1:n<=274877906944):Calls Tryz.prog 15 #[.int .i64 v,.int .i64 ((n:Nat):Int)] w λ e w'=>e=.returned (.int .i64 (((yI v n).toNat:Nat):Int))/\St w [] [] w':=by
 have h:=yB (v:=v) (n:=(n:Int)) (by omega) (by omega)
 rw[Int.toNat_of_nonneg h.1]
 exact m9 v n w (by rw[wrap_u64];omega)
end

/- Proper states, by what their nodes hold. -/
end Go.Proofs.YtpobgmdalcpomaaGreat
namespace Go.Ct
section
def Nv.nd(v:Nv):Nd:=⟨v.kind,v.gen,v.main,v.bm,none,v.xs.length,0,v.hash,v.key,v.val,none,v.ys.length,0,v.prev,v.cE,v.exp,v.new,v.status⟩
def Nv.dv(v:Nv):aQ:=⟨v.nd,v.xs,v.ys⟩
theorem Nv.y6(v:Nv):v.dv.c=v:=rfl
theorem pz(N:List Nv):(N.map Nv.dv).map aQ.c=N:=by
 rw[List.map_map]
 exact(List.map_congr_left (λ v _=>Nv.y6 v)).trans (List.map_id N)
theorem Ix{n:Nd}{xs:List Int}{ys:List Pr}:bL n xs ys↔bL (n.c xs ys).nd xs ys:=by
 have e:qQ n n.own xs (n.jY xs) ys (n.jF ys)↔qQ (n.c xs ys).nd (n.c xs ys).nd.own xs ((n.c xs ys).nd.jY xs) ys ((n.c xs ys).nd.jF ys):=by
  rw[zL,zL]
  have e1:n.own.c (n.jY xs) (n.jF ys)=(n.c xs ys).nd.own.c ((n.c xs ys).nd.jY xs) ((n.c xs ys).nd.jF ys):=by
   have hx:(n.c xs ys).nd.jY xs=n.jY xs:=rfl
   have hy:(n.c xs ys).nd.jF ys=n.jF ys:=rfl
   have hk:(n.c xs ys).nd.kind=n.kind:=rfl
   rw[hx,hy]
   unfold Nd.own
   rw[hk]
   repeat' split
   all_goals first|rfl|contradiction
  rw[e1]
  exact Iff.rfl
 unfold bL
 rw[e]
 exact Iff.rfl
theorem r6{gen:Int}{n:Nat}{u v:aQ}(h:u.c=v.c)(hu:kG gen n u):kG gen n v:=by
 have key:∀v:aQ,kG gen n v↔kG gen n v.c.dv:=λ v=>by
  unfold kG
  rw[Ix (n:=v.nd)]
  exact Iff.rfl
 rw[key,<- h,<- key]
 exact hu
theorem ew{m:Nat}{L1 L2:List aQ}(h:L1.map aQ.c=L2.map aQ.c):marks m L1=marks m L2:=by
 have key:∀L:List aQ,marks m L=(L.map aQ.c).foldl (λ u c=>fB u c.nd) (some (List.replicate m false)):=λ L=>by
  unfold marks
  rw[List.foldl_map]
  rfl
 rw[key,key,h]
theorem Ul{L1 L2:List aQ}{cs:List Int}{gen:Int}(h:L1.map aQ.c=L2.map aQ.c)(hp:dK L1 cs gen):dK L2 cs gen:=by
 have hl:L1.length=L2.length:=by simpa using congrArg List.length h
 have hi:=(w7 hl).1 h
 have h2:=hp.two
 refine⟨by omega,hp.gen0,?_,?_,λ i h=>by have:=hp.cells i h;rwa [hl] at this,λ i h=>?_,by rw[<- ew h];exact hp.marks⟩
 ·have:=congrArg Nv.kind (hi 0 (by omega))
  exact this.symm.trans hp.m0
 ·have:=congrArg Nv.kind (hi 1 (by omega))
  exact this.symm.trans hp.m1
 ·have:=hp.nodes i (by omega)
  rw[<- hl]
  exact r6 (hi i (by omega)) this
def fY(N:List Nv)(cs:List Int)(gen:Int):Prop:=dK (N.map Nv.dv) cs gen
theorem fY.to{N:List Nv}{cs:List Int}{gen:Int}(h:fY N cs gen){L:List aQ}(hl:L.map aQ.c=N):dK L cs gen:=Ul (by rw[pz,hl]) h
theorem fY.push{N:List Nv}{cs:List Int}{gen init:Int}{n:Nv}(h:fY N cs gen)(hv:kG gen (N.length+1) (eN n cs.length).dv)(hi:B5 init N.length):fY (N++[eN n cs.length]) (eQ n.kind cs init) gen:=by
 have hm:(N.map Nv.dv).length=N.length:=by simp
 have:=Nj (v:=(eN n cs.length).dv) (k:=n.kind) (init:=init) h (by rw[hm];exact hv) (by rw[hm];exact hi) (by
  have e:(eN n cs.length).dv.nd.kind=n.kind:=rfl
  unfold dR eQ
  rw[e]
  by_cases h2:n.kind=2
  ·right
   rw[if_pos h2,if_pos (.inl h2)]
   exact⟨by show some (if n.kind=2 then _ else _)=_;rw[if_pos h2],rfl⟩
  rw[if_neg h2]
  by_cases h3:n.kind=3∨n.kind=5∨n.kind=6
  ·right
   rw[if_pos h3,if_pos (by omega)]
   exact⟨by show some (if n.kind=3∨n.kind=5∨n.kind=6 then _ else _)=_;rw[if_pos h3],rfl⟩
  rw[if_neg h3]
  by_cases h8:n.kind=8
  ·right
   rw[if_pos h8,if_pos (by omega)]
   exact⟨by show some (if n.kind=8 then _ else _)=_;rw[if_pos h8],rfl⟩
  ·left
   rw[if_neg h8,if_neg (by omega)]
   exact⟨rfl,rfl⟩)
 unfold fY
 rw[List.map_append]
 exact this
theorem fY.cell{N:List Nv}{cs:List Int}{gen init:Int}(h:fY N cs gen)(hi:B5 init N.length):fY N (cs++[init]) gen:=by
 have hm:(N.map Nv.dv).length=N.length:=by simp
 refine⟨h.two,h.gen0,h.m0,h.m1,λ i hi'=>?_,h.nodes,?_⟩
 ·rw[gdg]
  rw[List.length_append,List.length_cons,List.length_nil] at hi'
  by_cases hl:i<cs.length
  ·rw[List.getElem?_append_left hl,<- gdg]
   exact h.cells i hl
  ·rw[List.getElem?_append_right (by omega),show i-cs.length=0 by omega,hm]
   exact hi
 ·have key:∀(l:List aQ) (m:Nat) (u:List Bool),l.foldl (λ u v=>fB u v.nd) (some u)≠none->l.foldl (λ u v=>fB u v.nd) (some (u++[false]))≠none:=by
   intro l
   induction l with
   | nil=>intro _ u _ h;cases h
   | cons v l ih =>
    intro m u hu
    rw[List.foldl_cons] at hu ⊢
    have hnone:∀l:List aQ,l.foldl (λ u v=>fB u v.nd) none=none:=λ l=>by
     induction l with
     | nil=>rfl
     | cons v l ih=>exact ih
    cases hc:dR v.nd with
    | none =>
     rw[show fB (some u) v.nd=some u by simp[fB,hc]] at hu
     rw[show fB (some (u++[false])) v.nd=some (u++[false]) by simp[fB,hc]]
     exact ih m u hu
    | some c =>
     by_cases hc3:1<=c/\c<=u.length/\u.getD (c-1).toNat false=false
     ·obtain⟨c1,c2,c3⟩:=hc3
      have hlt:(c-1).toNat<u.length:=by omega
      have e1:(u++[false]).getD (c-1).toNat false=u.getD (c-1).toNat false:=by
       rw[gdg,gdg,List.getElem?_append_left hlt]
      have e2:fB (some u) v.nd=some (u.set (c-1).toNat true):=by
       show(match dR v.nd with|none=>_|some c=>_)=_
       rw[hc]
       exact if_pos ⟨c1,c2,c3⟩
      have e3:fB (some (u++[false])) v.nd=some (u.set (c-1).toNat true++[false]):=by
       show(match dR v.nd with|none=>_|some c=>_)=_
       rw[hc,<- List.set_append_left _ _ hlt]
       exact if_pos ⟨c1,by rw[List.length_append,List.length_cons,List.length_nil];omega,by rw[e1];exact c3⟩
      rw[e2] at hu
      rw[e3]
      exact ih m _ hu
     ·have e2:fB (some u) v.nd=none:=by
       show(match dR v.nd with|none=>_|some c=>_)=_
       rw[hc]
       exact if_neg hc3
      rw[e2,hnone] at hu
      exact absurd rfl hu
  have:=key (N.map Nv.dv) 0 (List.replicate cs.length false) h.marks
  unfold marks
  rw[List.length_append,List.length_cons,List.length_nil,List.replicate_succ']
  exact this
end

/- Nodes by what they hold: what the reference's functions on nodes give. -/
end Go.Ct
namespace Go.Proofs.YtpobgmdalcpomaaGreat
section
open Go.RowKit Go.Ct
theorem wj{n:Nd}{xs:List Int}{ys:List Pr}:CV n xs ys↔CV (n.c xs ys).nd xs ys:=by
 unfold CV
 rw[Ix (n:=n)]
 exact Iff.rfl
theorem zr{n:Nd}{xs:List Int}{ys:List Pr}:LV n xs ys↔LV (n.c xs ys).nd xs ys:=by
 unfold LV
 rw[Ix (n:=n)]
 exact Iff.rfl
theorem b8{n:Nd}{xs:List Int}{ys:List Pr}:CV (n.c xs ys).nd (n.c xs ys).xs (n.c xs ys).ys=CV n xs ys:=propext wj.symm
theorem xd{n:Nd}{xs:List Int}{ys:List Pr}:LV (n.c xs ys).nd (n.c xs ys).xs (n.c xs ys).ys=LV n xs ys:=propext zr.symm
def Gi(b:Nat)(xs:List Int):Nv:=(cn b xs (none,0)).c xs []
noncomputable def mB (v:Nv) (i:Int):Option Int:=Kk v.nd v.xs v.ys v.bm.toNat i
noncomputable def K6 (v:Nv):Option Int:=Zx v.nd v.xs v.ys
def Gl(o:Option (Nat×List Int)):Nv:=match o with|some q=>Gi q.1 q.2|none=>Nv.zero
noncomputable def oc (v:Nv) (i r:Int):Nv:=Gl (cm v.nd v.xs v.ys v.bm.toNat i r)
noncomputable def Y7 (v:Nv) (i r:Int):Nv:=Gl (cr v.nd v.xs v.ys v.bm.toNat i r)
noncomputable def Lk (v:Nv) (i:Int):Nv:=Gl (cf v.nd v.xs v.ys v.bm.toNat i)
def zf(s:Nv):Nv:=(zv s.nd).c [] []
noncomputable def sg (v:Nv) (level:Int) (s:Nv):Nv:=if Qy v.nd v.xs v.ys level s.nd=true then zf s else v
def ua(v:Nv):Nv:=(Fp v.nd).c [] []
noncomputable def rr (v:Nv) (k:ByteArray) (u:Int):Nv:=(ap (kS v.nd v.xs v.ys k u) v.hash (none,0)).c [] (Wg (kS v.nd v.xs v.ys k u))
noncomputable def kr (v:Nv) (k:ByteArray):Nv:=(Lg (oZ v.nd v.xs v.ys k) v.hash (none,0)).c [] (Gk (oZ v.nd v.xs v.ys k))
section
variable{n s:Nd}{xs:List Int}{ys:List Pr}{b:Nat}
theorem wu(hb:n.bm=(b:Int))(i:Int):Kk n xs ys b i=mB (n.c xs ys) i:=by
 have e:(n.c xs ys).bm.toNat=b:=by show n.bm.toNat=b;omega
 unfold mB Kk
 rw[e]
 rw[b8 (n:=n)]
 rfl
theorem oq:Zx n xs ys=K6 (n.c xs ys):=by
 unfold K6 Zx
 rw[b8 (n:=n)]
 rfl
theorem D7(o:Option (Nat×List Int))(x:Option Addr×Nat):(mF o x).c (lU o) []=Gl o:=by cases o<;>rfl
theorem zp(hb:n.bm=(b:Int))(i r:Int):Gl (cm n xs ys b i r)=oc (n.c xs ys) i r:=by
 have e:(n.c xs ys).bm.toNat=b:=by show n.bm.toNat=b;omega
 unfold oc cm
 rw[e]
 rw[b8 (n:=n)]
 rfl
theorem xb(hb:n.bm=(b:Int))(i r:Int):Gl (cr n xs ys b i r)=Y7 (n.c xs ys) i r:=by
 have e:(n.c xs ys).bm.toNat=b:=by show n.bm.toNat=b;omega
 unfold Y7 cr
 rw[e]
 rw[b8 (n:=n)]
 rfl
theorem uo(hb:n.bm=(b:Int))(i:Int):Gl (cf n xs ys b i)=Lk (n.c xs ys) i:=by
 have e:(n.c xs ys).bm.toNat=b:=by show n.bm.toNat=b;omega
 unfold Lk cf
 rw[e]
 rw[b8 (n:=n)]
 rfl
theorem yq(level:Int):(ld (Qy n xs ys level s) n s).c (b9 (Qy n xs ys level s) xs) (b9 (Qy n xs ys level s) ys)=sg (n.c xs ys) level (s.c [] []):=by
 have e:Qy (n.c xs ys).nd xs ys level (s.c [] []).nd=Qy n xs ys level s:=by
  unfold Qy
  rw[oq (n:=n)]
  rfl
 have e':Qy (n.c xs ys).nd (n.c xs ys).xs (n.c xs ys).ys level (s.c [] []).nd=Qy n xs ys level s:=e
 unfold sg ld b9
 rw[e']
 split<;>rfl
theorem vf:(Fp n).c [] []=ua (n.c xs ys):=by
 unfold ua Fp
 show _=Nd.c (if n.kind=5 then _ else _) _ _
 split<;>rfl
theorem yn(k:ByteArray)(u:Int)(x:Option Addr×Nat):(ap (kS n xs ys k u) n.hash x).c [] (Wg (kS n xs ys k u))=rr (n.c xs ys) k u:=by
 have e':kS (n.c xs ys).nd (n.c xs ys).xs (n.c xs ys).ys k u=kS n xs ys k u:=by unfold kS;rw[xd (n:=n)];rfl
 unfold rr
 rw[e']
 cases kS n xs ys k u<;>rfl
theorem ym(k:ByteArray)(x:Option Addr×Nat):(Lg (oZ n xs ys k) n.hash x).c [] (Gk (oZ n xs ys k))=kr (n.c xs ys) k:=by
 have e':oZ (n.c xs ys).nd (n.c xs ys).xs (n.c xs ys).ys k=oZ n xs ys k:=by unfold oZ;rw[xd (n:=n)];rfl
 unfold kr
 rw[e']
 cases oZ n xs ys k with
 | none=>rfl
 | some m=>unfold Lg;simp only[Gk];split<;>rfl
end
end

/- Hash values: their slices, and how many two of them share. -/
end Go.Proofs.YtpobgmdalcpomaaGreat
namespace Go.Ct
section
open Go Go.RowKit
def sl(h l:Nat):Nat:=(h >>> (6*l))%64
theorem xD(h l:Nat):sl h l<64:=Nat.mod_lt _ (by decide)
theorem Jx(h j:Nat):(h >>> (6*j))/64=h >>> (6*(j+1)):=by
 rw[show 6*(j+1)=6*j+6 by omega,Nat.shiftRight_add,Nat.shiftRight_eq_div_pow (h >>> (6*j)) 6]
def Gc(h k:Nat):Nat->Nat->Nat
 | 0,l=>l
 | n+1,l=>if sl h l=sl k l then Gc h k n (l+1) else l
def kX(h k:Nat):Nat:=Gc h k 11 0
theorem vW(h k:Nat):∀n l,l<=Gc h k n l/\Gc h k n l<=l+n/\(∀i,l<=i->i<Gc h k n l->sl h i=sl k i)/\(Gc h k n l<l+n->sl h (Gc h k n l)≠sl k (Gc h k n l))
 | 0,l=>⟨Nat.le_refl _,Nat.le_refl _,λ i h1 h2=>absurd h2 (by simp only[Gc];omega),λ h=>absurd h (by simp only[Gc];omega)⟩
 | n+1,l=>by
  simp only[Gc]
  split
  ·rename_i he
   obtain⟨h1,h2,h3,h4⟩:=vW h k n (l+1)
   refine⟨by omega,by omega,λ i hi hi2=>?_,λ hlt=>h4 (by omega)⟩
   rcases Nat.lt_or_eq_of_le hi with hi|rfl
   ·exact h3 i (by omega) hi2
   ·exact he
  ·rename_i he
   exact⟨Nat.le_refl _,by omega,λ i h1 h2=>absurd h2 (by omega),λ _=>he⟩
theorem yL(h k:Nat):kX h k<=11:=by have:=(vW h k 11 0).2.1;unfold kX;omega
theorem Ph{h k i:Nat}(hi:i<kX h k):sl h i=sl k i:=(vW h k 11 0).2.2.1 i (Nat.zero_le _) hi
theorem Ji{h k:Nat}(hc:kX h k<11):sl h (kX h k)≠sl k (kX h k):=(vW h k 11 0).2.2.2 (by unfold kX at hc;omega)
theorem ox{h k l:Nat}(hl:l<=11)(h1:∀i,i<l->sl h i=sl k i)(h2:l<11->sl h l≠sl k l):l=kX h k:=by
 rcases Nat.lt_trichotomy l (kX h k) with h3|h3|h3
 ·exact absurd (Ph h3) (h2 (by have:=yL h k;omega))
 ·exact h3
 ·exact absurd (h1 _ h3) (Ji (by omega))
theorem qy{P:Program}{S:List (Nat×Value)}{G:World->Prop}{d:Nat}{ty t t':TypeId}{pos:String}{af:Array Edge}{gd:Option (Nat×Bool)}{x y:Operand}{a b:Nat}(hx:ev S x=.int .u64 (a:Int))(hy:ev S y=.int .u64 (b:Int))(h0:b≠0)(ha:a<18446744073709551616):aS P S G ⟨some d,.binOp .quo t x y t',ty,pos,af,gd⟩ (.int .u64 ((a/b:Nat):Int)):=⟨λ w _=>by
 have h1:((b:Nat):Int)≠0:=by omega
 have h2:(a:Int).tdiv (b:Int)=((a/b:Nat):Int):=by rw[Int.tdiv_eq_ediv_of_nonneg (by omega)];rfl
 have h3:IntKind.u64.wrap ((a/b:Nat):Int)=((a/b:Nat):Int):=by
  have h4:=Nat.div_le_self a b
  generalize a/b=q at h4 ⊢
  rw[wrap_u64]
  omega
 simp only[execOp,hx,hy,eqGuard_at_int,binOp,Op.intDiv]
 simp[h0,h2]
 exact h3⟩
section
variable{P:Program}{S:List (Nat×Value)}{G:World->Prop}{d:Nat}{ty t t':TypeId}{pos:String}{af:Array Edge}{gd:Option (Nat×Bool)}{x y:Operand}{a b i:Nat}{k':IntKind}
theorem sc(hx:ev S x=.int .u64 (a:Int))(hy:ev S y=.int .u64 (b:Int))(ha:a<18446744073709551616)(hb:b<18446744073709551616):aS P S G ⟨some d,.binOp .and t x y t',ty,pos,af,gd⟩ (.int .u64 ((a &&& b:Nat):Int)):=by
 have:=lj (P:=P) (G:=G) (d:=d) (ty:=ty) (pos:=pos) (af:=af) (gd:=gd) (t:=t) (t':=t') hx hy
 rwa [pK ha hb] at this
theorem o9(hx:ev S x=.int .u64 (a:Int))(hy:ev S y=.int .u64 (b:Int))(h0:b≠0):aS P S G ⟨some d,.binOp .rem t x y t',ty,pos,af,gd⟩ (.int .u64 ((a%b:Nat):Int)):=by
 have:=Wu (P:=P) (G:=G) (d:=d) (ty:=ty) (pos:=pos) (af:=af) (gd:=gd) (t:=t) (t':=t') hx hy (by omega)
 rwa [Int.tmod_eq_emod_of_nonneg (by omega),<- Int.natCast_emod] at this
end
end
end Go.Ct
namespace Go.Proofs.YtpobgmdalcpomaaGreat
section
open Go.RowKit Go.Ct
theorem pA{h l:Nat}(hh:h<18446744073709551616)(hl:l<=10)(w:World):Calls Tryz.prog 35 #[.int .u64 (h:Int),.int .i64 (l:Int)] w λ e w'=>e=.returned (.int .i64 ((sl h l:Nat):Int))/\St w [] [] w':=by
 refine enter Tryz.func35 Tryz.ntmps35 rfl rfl (SF.s0 w) ?_
 simp only[dB]
 all_goals (refine dH ?_;refine jS ?_;refine Am ?_)
 all_goals (first|refine aG ?_|(refine aC ?_;refine aA ?_)|(refine dG 7 (λ g7=>?_) (λ g7=>?_)<;>(try (exfalso;omega))<;>(first|refine aG ?_|(refine aC ?_;refine aA ?_))))
 all_goals (refine xV ?_;refine aN ?_)
 all_goals
 refine bF (λ c10=>?_) (λ c10=>?_)
 ·try exact nv c10
  all_goals try (exfalso;omega)
  all_goals refine dH ?_
  all_goals
   refine aR Tryz.results35 (λ w hw=>?_)
   have hy:y=l:=by omega
   subst hy
   exact⟨rfl,hw.done⟩
 ·try exact nv c10
  all_goals try (exfalso;omega)
  all_goals refine oD ?_
  all_goals
   refine gE [0,1,11,12,13,14,15,16] (λ y:Nat=>[(1,.int .i64 ((l-y:Nat):Int)),(0,.int .u64 ((h >>> (6*y):Nat):Int))]) (λ y=>y<=l) (λ y=>l-y) (0) (Nat.zero_le _) ?_ (λ y f hx=>?_)
   ·repeat (first|exact bI _|refine bE (by first|exact rfl|(conv=>{lhs;whnf};simp;done)) ?_)
   dsimp only[gW,List.map,List.cons_append,List.nil_append]
   all_goals (refine jS ?_;refine xG ?_;refine aN ?_)
   all_goals
   refine bF (λ c12=>?_) (λ c12=>?_)
   ·try exact nv c12
    all_goals try (exfalso;omega)
    all_goals (refine oD ?_;refine xU ?_;refine aF (iG (qy (b:=64) rf rf (by decide) (Nat.lt_of_le_of_lt (Nat.shiftRight_le _ _) hh))) (λ x16=>?_);refine J1 ?_;refine eV ?_;refine xU ?_;refine kN ?_;refine J1 ?_)
    all_goals
     refine fD (y+1) ?_ ?_ ?_
     ·first|omega|(simp only[];omega)
     ·repeat' (first|exact bI _|refine bE ?_ ?_)
      all_goals (first|exact rfl|(conv=>{lhs;whnf};rw[Jx];done)|(conv=>{lhs;whnf};simp;done)|(conv=>{lhs;whnf};congr 1;omega))
     ·omega
   ·try exact nv c12
    all_goals try (exfalso;omega)
    all_goals (refine bQ rfl ?_;refine J2 ?_;refine aH (o9 (b:=64) rf rf (by decide)) rfl ?_;refine lI ?_;refine J1 ?_)
    all_goals
     refine aR Tryz.results35 (λ w hw=>?_)
     have hy:y=l:=by omega
     subst hy
     exact⟨rfl,hw.done⟩
theorem Nc{h k:Nat}(hh:h<18446744073709551616)(hk:k<18446744073709551616)(w:World):Calls Tryz.prog 154 #[.int .u64 (h:Int),.int .u64 (k:Int)] w λ e w'=>e=.returned (.int .i64 ((kX h k:Nat):Int))/\St w [] [] w':=by
 refine enter Tryz.func154 Tryz.ntmps154 rfl rfl (SF.s0 w) ?_
 simp only[dB]
 all_goals (refine dH ?_;refine dH ?_;refine C6 ?_)
 all_goals
 refine gE [5,6,7,8,9,10,11,12,13,14,15,16,17,18] (λ y:Nat=>[(5,.int .i64 ((y:Nat):Int))]) (λ y=>y<=11/\∀i,i<y->sl h i=sl k i) (λ y=>11-y) (0) (⟨Nat.zero_le _,λ i hi=>absurd hi (Nat.not_lt_zero i)⟩) ?_ (λ y f hx=>?_)
 ·repeat (first|exact bI _|refine bE (by first|exact rfl|(conv=>{lhs;whnf};simp;done)) ?_)
 dsimp only[gW,List.map,List.cons_append,List.nil_append]
 all_goals (refine jS ?_;refine Ab ?_;refine aA ?_)
 all_goals (first|refine aG ?_|(refine aC ?_;refine aA ?_)|(refine dG 8 (λ g8=>?_) (λ g8=>?_)<;>(try (exfalso;omega))<;>(first|refine aG ?_|(refine aC ?_;refine aA ?_))))
 all_goals ((first|refine aG ?_|(refine aC ?_;refine aA ?_));((first|refine aG ?_|(refine aC ?_;(refine aF (cV (hc:=λ w1 hw=>pA (l:=y) hh (by omega) w1)) (λ x11=>?_);try (refine aB (λ h11=>?_))))));(first|refine aG ?_|(refine aC ?_;refine aA ?_));(first|refine aG ?_|(refine aC ?_;refine aA ?_));((first|refine aG ?_|(refine aC ?_;(refine aF (cV (hc:=λ w1 hw=>pA (l:=y) hk (by omega) w1)) (λ x14=>?_);try (refine aB (λ h14=>?_))))));refine rM ?_;refine aN ?_)
 all_goals
  refine bF (λ c16=>?_) (λ c16=>?_)
  ·try exact nv c16
   all_goals try (exfalso;omega)
   all_goals (refine aZ ?_;refine cZ ?_;refine uH ?_;refine eV ?_)
   all_goals
   refine fD (y+1) ?_ ?_ ?_
   ·first|omega|(simp only[];omega)
   ·repeat' (first|exact bI _|refine bE ?_ ?_)
    all_goals (first|exact rfl|(conv=>{lhs;whnf};simp;done)|(conv=>{lhs;whnf};congr 1;omega))
   ·exact⟨by omega,λ i hi=>by rcases Nat.lt_succ_iff_lt_or_eq.1 hi with h|rfl;exact hx.2 i h;omega⟩
  ·try exact nv c16
   all_goals try (exfalso;omega)
   all_goals (refine bQ rfl ?_;refine J2 ?_;refine J1 ?_)
   all_goals
   refine aR Tryz.results154 (λ w hw=>?_)
   exact⟨by rw[<- ox (h:=h) (k:=k) hx.1 hx.2 (λ _=>by first|omega|(intro;omega))];rfl,hw.done⟩
end

end Go.Proofs.YtpobgmdalcpomaaGreat
