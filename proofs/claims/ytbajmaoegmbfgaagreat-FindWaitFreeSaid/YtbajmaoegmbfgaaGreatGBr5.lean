/- Branches: the reference's build, Inserted, Updated, Removed. -/
import Derived.Test.YtbajmaoegmbfgaaGreatGBr2
import Derived.Test.YtbajmaoegmbfgaaGreatGJoin

set_option linter.unusedSimpArgs false
set_option linter.unusedVariables false
namespace Go.Proofs.YtbajmaoegmbfgaaGreat
section
open Go.RowKit Go.Ct
def gG(b:Nat)(xs:List Int)(i:Nat)(r:Int):Nat->Option Int:=Ng (sH b xs) i (if 0<r then some r else none)
theorem nN{m:Nat->Option Int}{k:Nat}{v:Int}(h:m k=some v)(hk:k<64):dL (Bi m k) (k:Int)=Bi m (k+1)/\rA m k++[v]=rA m (k+1):=by
 simp only[Bi,rA,h,dL,Option.isSome_some,if_true,Option.toList,Int.toNat_natCast,and_true]
 exact if_pos (by omega)
theorem nX{m:Nat->Option Int}{k:Nat}(h:m k=none):Bi m k=Bi m (k+1)/\rA m k=rA m (k+1):=by
 simp[Bi,rA,h]
theorem Ag(m:Nat->Option Int){k:Nat}(hk:k<=64):Bi m k<18446744073709551616:=Nat.lt_of_lt_of_le (fx m k) (Nat.pow_le_pow_right (n:=2) (by decide) hk)
theorem Uh(m:Nat->Option Int):∀k,(rA m k).length<=k
 | 0=>Nat.le_refl _
 | k+1=>by have:=Uh m k;simp only[rA,List.length_append];cases m k<;>simp<;>omega
section
variable{n:Nd}{xs:List Int}{ys:List Pr}{w:World}{b:Nat}
theorem Vr(hcv:CV n xs ys){k:Nat}(hk:k<64):Eg n xs ys b (k:Int)=sH b xs k:=by
 unfold Eg sH
 have h1:nY b (k:Int)=b.testBit k:=by rw[A8 b (by omega) (by omega),Int.toNat_natCast]
 have h2:lS b (k:Int)=fZ b k:=by unfold lS;rw[Int.toNat_natCast,Nat.min_eq_left (by omega)]
 rw[h1,h2]
 by_cases h:b.testBit k=true<;>simp[h,hcv]
theorem Em{i k:Nat}{r:Int}(hcv:CV n xs ys)(hk:k<64)(h:(k:Int)≠(i:Int)):gG b xs i r k=Eg n xs ys b (k:Int):=by
 rw[Vr hcv hk]
 exact if_neg (by omega)
theorem Et{i k:Nat}{r:Int}(h:(k:Int)=(i:Int)):gG b xs i r k=if 0<r then some r else none:=if_pos (by omega)
theorem Uw{o:Option Int}(h:o.isSome=true):o=some (o.getD 0):=by cases o<;>simp_all
theorem V8{o:Option Int}(h:o.isSome=false):o=none:=by cases o<;>simp_all
set_option maxHeartbeats 800000 in
theorem Li(i:Nat)(r:Int)(_hi:i<64)(hcv:CV n xs ys)(hb:n.bm=(b:Int))(hb2:b<18446744073709551616)(hr:qS w n xs ys) :
    Calls Tryz.prog 244 #[n.v,.int .i64 (i:Int),.int .i64 r] w λ e w'=>∃x:Option Addr×Nat,e=.returned (cn (Bi (gG b xs i r) 64) (rA (gG b xs i r) 64) x).v/\(rA (gG b xs i r) 64).length<=x.2/\SF w [] [] [] [(x.1,aG (rA (gG b xs i r) 64))] [] w':=by
  have e1:=hr.brN
  refine enter Tryz.func244 Tryz.ntmps244 rfl rfl (SF.s2 hr.br hr.pr) ?_
  simp only[bY]
  simp only[Nd.v,Nd.cells]
  refine J0 ?_;refine bO (λ x3=>?_);refine aI (λ x6=>?_);refine aH ?_;refine J0 ?_;refine bJ ?_;refine aI (λ x7=>?_);refine J5 ?_;refine aV ?_;refine Fs ?_
  refine nA [8,9,10,12,13,14,15,16,17,18,19,20,21,22,23,24,25,26,27,28,29,30,31,32,33,34,35,36,37,38,39] (λ y:Nat×Option Addr×Nat=>[(8,.int .i64 ((y.1:Nat):Int))]) (λ y=>y.1<=64/\(rA (gG b xs i r) y.1).length<=y.2.2) (λ y=>[(x7,.cells ⟨[.int .i64 3,.int .i64 0,.int .i64 0,.int .u64 ((Bi (gG b xs i r) y.1:Nat):Int),.slice y.2.1 (rA (gG b xs i r) y.1).length y.2.2,.int .u64 0,.string ⟨#[]⟩,.int .u64 0,.slice none 0 0,.int .i64 0,.int .i64 0,.int .i64 0,.int .i64 0,.int .i64 0]⟩ 47),(x6,.cells ⟨Nd.zero.cells⟩ 47),(x3,.cells ⟨n.cells⟩ 47)]) (λ _=>_) (λ y=>[⟨y.2.1,aG (rA (gG b xs i r) y.1),y.2.2,37,1⟩]) (λ y=>64-y.1) ((0,none,0)) (⟨Nat.zero_le _,Nat.le_refl _⟩) (λ y f hx=>?_) (hw0:=λ w hw=>(hw.lW 37 1).back)
  dsimp only[gR,List.map,List.cons_append,List.nil_append]
  have hll:=Uh (gG b xs i r) y.1
  refine kM ?_;refine vX ?_
  refine bE (λ c13=>?_) (λ c13=>?_)
  · refine qI ?_;refine Ta ?_;refine aR (cV (hc:=λ w1 hw=>nP (n:=n) (y.1:Int) hb hb2 (hr.fP hw.done))) (λ x19=>?_);refine aA ?_;refine aB (jI rf rfl) rfl ?_;refine aB (jI rf rfl) rfl ?_;refine J8 ?_;refine Df ?_;refine uI ?_
    refine bE (λ c24=>?_) (λ c24=>?_)
    · refine Me ?_;refine Dj ?_;refine J8 ?_;refine J2 ?_;refine aH ?_
      refine bE (λ c28=>?_) (λ c28=>?_)
      · first
         | have hm:gG b xs i r y.1=some r:=by rw[Et c24,if_pos (by omega)]
         | have hm:gG b xs i r y.1=some ((Eg n xs ys b (y.1:Int)).getD 0):=by rw[Em hcv (by omega) c24];exact Uw c28
        refine eI [29,30,31,32,33,34,35,36,37,38,39] (λ z:Nat×Option Addr×Nat=>[]) (λ z=>(rA (gG b xs i r) y.1).length+1<=z.2.2) (λ z=>[(x7,.cells ⟨[.int .i64 3,.int .i64 0,.int .i64 0,.int .u64 ((Bi (gG b xs i r) (y.1+1):Nat):Int),.slice z.2.1 (rA (gG b xs i r) (y.1+1)).length z.2.2,.int .u64 0,.string ⟨#[]⟩,.int .u64 0,.slice none 0 0,.int .i64 0,.int .i64 0,.int .i64 0,.int .i64 0,.int .i64 0]⟩ 47),(x6,.cells ⟨Nd.zero.cells⟩ 47),(x3,.cells ⟨n.cells⟩ 47)]) (λ z=>[]) (λ z=>[⟨z.2.1,aG (rA (gG b xs i r) (y.1+1)),z.2.2,37,1⟩]) (by decide) (λ _=>by exact rfl) ?_ (λ z f hx=>?_)
        · refine iD (.one 0 [] (.one 1 [] (.one 2 [] (.one 4 [] (.one 5 [] (.one 6 [] (.two 3 [5] (.one 9 [] (.one 7 [1,5] (.one 8 [] (.one 10 [] (.one 11 [] (.one 12 [] .nil)))))) 0 [] (.two 7 [1,5] (.one 3 [5] (.one 9 [] (.one 8 [] (.one 10 [] (.one 11 [] (.one 12 [] .nil)))))) 0 [] .nil)))))))) ?_
          refine lV ?_;refine aP ?_;refine lV ?_;refine aP ?_
          refine iK (E:=[3,7]) (by decide +kernel) ((.cons ?_ (.cons ?_ .nil)))
          · refine Di (i:=3) (hq:=(cV (hc:=λ w1 hw=>mT (Ag (gG b xs i r) (k:=y.1) (by omega)) (y.1:Int) w1))) (h:=λ x32=>?_)
            refine aQ ?_;refine cG (h:=λ x36=>?_);((refine Ae (h:=λ x37=>?_);try (refine eY (λ h37=>?_))));refine Ro ?_;refine Ar ?_
            refine fC ((0,x37)) ?_ (hw1:=λ w hw=>by obtain⟨k1,k2⟩:=nN hm (by omega);rw[k1,show(rA (gG b xs i r) y.1).length+1=(rA (gG b xs i r) (y.1+1)).length by rw[<- k2];simp,k2] at hw;exact hw.back)
            · exact h37
          · refine Aw (i:=7) (h:=λ x36=>?_)
            refine cN (i:=3) (hq:=(cV (hc:=λ w1 hw=>mT (Ag (gG b xs i r) (k:=y.1) (by omega)) (y.1:Int) w1))) (h:=λ x32=>?_);refine aQ ?_;((refine Ae (h:=λ x37=>?_);try (refine eY (λ h37=>?_))));refine Ro ?_;refine Ar ?_
            refine fC ((0,x37)) ?_ (hw1:=λ w hw=>by obtain⟨k1,k2⟩:=nN hm (by omega);rw[k1,show(rA (gG b xs i r) y.1).length+1=(rA (gG b xs i r) (y.1+1)).length by rw[<- k2];simp,k2] at hw;exact hw.back)
            · exact h37
        dsimp only[gR,List.map,List.cons_append,List.nil_append]
        refine eP ?_;refine yH ?_
        refine iJ ((by exact(y.1+1,z.2))) ?_ (hw1:=λ w hw=>by exact hw.back)
        · first
           | exact⟨by omega,by have k2:=(nN hm (by omega)).2;simp only[];rw[<- k2,List.length_append];exact hx⟩
           | exact⟨by omega,by simp only[];rw[<- (nX hm).2];exact hx.2⟩
      · have hm:gG b xs i r y.1=none:=by
         first
          | (rw[Et c24,if_neg (by omega)];done)
          | (rw[Em hcv (by omega) c24];exact V8 c28)
        refine oB ?_;refine yH ?_
        refine iJ ((by exact(y.1+1,y.2))) ?_ (hw1:=λ w hw=>by(rw[(nX hm).1,(nX hm).2] at hw;exact hw.back))
        · first
           | exact⟨by omega,by have k2:=(nN hm (by omega)).2;simp only[];rw[<- k2,List.length_append];exact hx⟩
           | exact⟨by omega,by simp only[];rw[<- (nX hm).2];exact hx.2⟩
    · refine bB ?_;refine J2 ?_;refine aH ?_
      refine bE (λ c28=>?_) (λ c28=>?_)
      · first
         | have hm:gG b xs i r y.1=some r:=by rw[Et c24,if_pos (by omega)]
         | have hm:gG b xs i r y.1=some ((Eg n xs ys b (y.1:Int)).getD 0):=by rw[Em hcv (by omega) c24];exact Uw c28
        refine eI [29,30,31,32,33,34,35,36,37,38,39] (λ z:Nat×Option Addr×Nat=>[]) (λ z=>(rA (gG b xs i r) y.1).length+1<=z.2.2) (λ z=>[(x7,.cells ⟨[.int .i64 3,.int .i64 0,.int .i64 0,.int .u64 ((Bi (gG b xs i r) (y.1+1):Nat):Int),.slice z.2.1 (rA (gG b xs i r) (y.1+1)).length z.2.2,.int .u64 0,.string ⟨#[]⟩,.int .u64 0,.slice none 0 0,.int .i64 0,.int .i64 0,.int .i64 0,.int .i64 0,.int .i64 0]⟩ 47),(x6,.cells ⟨Nd.zero.cells⟩ 47),(x3,.cells ⟨n.cells⟩ 47)]) (λ z=>[]) (λ z=>[⟨z.2.1,aG (rA (gG b xs i r) (y.1+1)),z.2.2,37,1⟩]) (by decide) (λ _=>by exact rfl) ?_ (λ z f hx=>?_)
        · refine iD (.one 0 [] (.one 1 [] (.one 2 [] (.one 4 [] (.one 5 [] (.one 6 [] (.two 3 [5] (.one 9 [] (.one 7 [1,5] (.one 8 [] (.one 10 [] (.one 11 [] (.one 12 [] .nil)))))) 0 [] (.two 7 [1,5] (.one 3 [5] (.one 9 [] (.one 8 [] (.one 10 [] (.one 11 [] (.one 12 [] .nil)))))) 0 [] .nil)))))))) ?_
          refine lV ?_;refine aP ?_;refine lV ?_;refine aP ?_
          refine iK (E:=[3,7]) (by decide +kernel) ((.cons ?_ (.cons ?_ .nil)))
          · refine Di (i:=3) (hq:=(cV (hc:=λ w1 hw=>mT (Ag (gG b xs i r) (k:=y.1) (by omega)) (y.1:Int) w1))) (h:=λ x32=>?_)
            refine aQ ?_;refine cG (h:=λ x36=>?_);((refine Ae (h:=λ x37=>?_);try (refine eY (λ h37=>?_))));refine Ro ?_;refine Ar ?_
            refine fC ((0,x37)) ?_ (hw1:=λ w hw=>by obtain⟨k1,k2⟩:=nN hm (by omega);rw[k1,show(rA (gG b xs i r) y.1).length+1=(rA (gG b xs i r) (y.1+1)).length by rw[<- k2];simp,k2] at hw;exact hw.back)
            · exact h37
          · refine Aw (i:=7) (h:=λ x36=>?_)
            refine cN (i:=3) (hq:=(cV (hc:=λ w1 hw=>mT (Ag (gG b xs i r) (k:=y.1) (by omega)) (y.1:Int) w1))) (h:=λ x32=>?_);refine aQ ?_;((refine Ae (h:=λ x37=>?_);try (refine eY (λ h37=>?_))));refine Ro ?_;refine Ar ?_
            refine fC ((0,x37)) ?_ (hw1:=λ w hw=>by obtain⟨k1,k2⟩:=nN hm (by omega);rw[k1,show(rA (gG b xs i r) y.1).length+1=(rA (gG b xs i r) (y.1+1)).length by rw[<- k2];simp,k2] at hw;exact hw.back)
            · exact h37
        dsimp only[gR,List.map,List.cons_append,List.nil_append]
        refine eP ?_;refine yH ?_
        refine iJ ((by exact(y.1+1,z.2))) ?_ (hw1:=λ w hw=>by exact hw.back)
        · first
           | exact⟨by omega,by have k2:=(nN hm (by omega)).2;simp only[];rw[<- k2,List.length_append];exact hx⟩
           | exact⟨by omega,by simp only[];rw[<- (nX hm).2];exact hx.2⟩
      · have hm:gG b xs i r y.1=none:=by
         first
          | (rw[Et c24,if_neg (by omega)];done)
          | (rw[Em hcv (by omega) c24];exact V8 c28)
        refine oB ?_;refine yH ?_
        refine iJ ((by exact(y.1+1,y.2))) ?_ (hw1:=λ w hw=>by(rw[(nX hm).1,(nX hm).2] at hw;exact hw.back))
        · first
           | exact⟨by omega,by have k2:=(nN hm (by omega)).2;simp only[];rw[<- k2,List.length_append];exact hx⟩
           | exact⟨by omega,by simp only[];rw[<- (nX hm).2];exact hx.2⟩
  · refine bM rfl ?_;refine pK ?_;refine J5 ?_
    refine bD Tryz.results244 (λ w hw=>?_)
    have hy:y.1=64:=by omega
    rw[hy] at hw hx ⊢
    generalize Bi (gG b xs i r) 64=B at hw ⊢
    generalize rA (gG b xs i r) 64=L at hw hx ⊢
    exact⟨y.2,rfl,hx.2,SF.frz hw.aU⟩
end
end

/- Branches: the reference's Inserted, Updated, Removed. -/
section
open Go.RowKit Go.Ct
theorem of_eq{m:Nat->Option Int}{b:Nat}{xs:List Int}(h:BV b xs/\∀k,k<64->sH b xs k=m k):Bi m 64=b/\rA m 64=xs:=by
 obtain⟨h1,h2⟩:=Ps 64 λ k hk=>(h.2 k hk).symm
 obtain⟨h3,h4⟩:=ak h.1
 exact⟨h1.trans h3,h2.trans h4⟩
theorem pD{k:Nat}(b:Nat)(hk:k<64):dL b (k:Int)=b ||| 2^k:=by
 unfold dL;rw[if_pos (by omega),Int.toNat_natCast]
theorem sY{k:Nat}(b:Nat)(hk:k<64):vF b (k:Int)=b ^^^ (b &&& 2^k):=by
 unfold vF;rw[if_pos (by omega),Int.toNat_natCast]
theorem nZ{k:Nat}(b:Nat)(hk:k<64):lS b (k:Int)=fZ b k:=by
 unfold lS;rw[Int.toNat_natCast,Nat.min_eq_left (by omega)]
theorem pN{k:Nat}(b:Nat)(hk:k<64):nY b (k:Int)=b.testBit k:=by
 rw[A8 b (by omega) (by omega),Int.toNat_natCast]
theorem Xy{b k:Nat}{xs:List Int}{r:Int}(h:BV b xs)(hk:k<64)(hb:nY b (k:Int)=false)(hr:1<=r):Bi (gG b xs k r) 64=dL b (k:Int)/\rA (gG b xs k r) 64=uL xs (lS b (k:Int)) r:=by
 rw[pN b hk] at hb
 rw[pD b hk,nZ b hk]
 unfold gG
 rw[if_pos (by omega)]
 exact of_eq (H0 h hk hb hr)
theorem Yc{b k:Nat}{xs:List Int}{r:Int}(h:BV b xs)(hk:k<64)(hb:nY b (k:Int)=true)(hr:1<=r):Bi (gG b xs k r) 64=b/\rA (gG b xs k r) 64=zE xs (lS b (k:Int)) r:=by
 rw[pN b hk] at hb
 rw[nZ b hk]
 unfold gG
 rw[if_pos (by omega)]
 exact of_eq (Tb h hk hb hr)
theorem Yz{b k:Nat}{xs:List Int}(h:BV b xs)(hk:k<64)(hb:nY b (k:Int)=true):Bi (gG b xs k 0) 64=vF b (k:Int)/\rA (gG b xs k 0) 64=rK xs (lS b (k:Int)):=by
 rw[pN b hk] at hb
 rw[sY b hk,nZ b hk]
 unfold gG
 rw[if_neg (by omega)]
 exact of_eq (Sk h hk hb)
section
variable{n:Nd}{xs:List Int}{ys:List Pr}{w:World}{b:Nat}
theorem Al{i:Int}(h:(Eg n xs ys b i).isSome=true):CV n xs ys/\nY b i=true:=by
 unfold Eg at h
 split at h
 ·assumption
 ·cases h
theorem H4{i:Int}(h:(Eg n xs ys b i).isSome=false)(hcv:CV n xs ys):nY b i=false:=by
 unfold Eg at h
 split at h
 ·cases h
 ·rename_i hn
  cases hh:nY b i with
  | false=>rfl
  | true=>exact absurd ⟨hcv,hh⟩ hn
theorem I3(i r:Int)(hb:n.bm=(b:Int))(hb2:b<18446744073709551616)(hr:qS w n xs ys):Calls Tryz.prog 249 #[n.v,.int .i64 i,.int .i64 r] w (Yj w (cz n xs ys b i r)):=by
 refine enter Tryz.func249 Tryz.ntmps249 rfl rfl (SF.s2 hr.br hr.pr) ?_
 simp only[bY]
 simp only[Nd.v,Nd.cells]
 refine J0 ?_;refine bO (λ x3=>?_);refine aI (λ x6=>?_);refine iZ ?_;refine Ta ?_;refine aR (cV (hc:=λ w1 hw=>nP (n:=n) i hb hb2 (hr.fP hw.done))) (λ x13=>?_);refine aA ?_;refine aB (jI rf rfl) rfl ?_;refine aB (jI rf rfl) rfl ?_;refine J8 ?_;refine pK ?_;refine aC (c0 (V:=.bool) (hc:=λ w1 hw=>Zp (n:=n) hb hb2 (hr.fP hw.done))) (λ x17 h17=>?_);refine En ?_
 (refine eM 19 (λ g19=>?_) (λ g19=>?_)<;>(first|refine aJ ?_|(refine aF ?_;refine aA ?_)))
 all_goals (refine cH ?_;refine aA ?_)
 all_goals (first|refine aJ ?_|(refine eM 22 (λ g22=>?_) (λ g22=>?_)<;>(first|refine aJ ?_|(refine aF ?_;refine aA ?_))))
 all_goals (refine pq ?_;refine aA ?_)
 all_goals (first|refine aJ ?_|(refine eM 26 (λ g26=>?_) (λ g26=>?_)<;>(first|refine aJ ?_|(refine aF ?_;refine aA ?_))))
 all_goals (refine Iw ?_;refine aA ?_)
 all_goals (first|refine aJ ?_|(refine eM 30 (λ g30=>?_) (λ g30=>?_)<;>(first|refine aJ ?_|(refine aF ?_;refine aA ?_))))
 all_goals (refine pq ?_;refine aH ?_)
 all_goals
 refine bE (λ c33=>?_) (λ c33=>?_)
 ·all_goals (refine J0 ?_;refine bJ ?_;refine zH ?_)
  all_goals
   refine bD Tryz.results249 (λ w hw=>?_)
   rw[show cz n xs ys b i r=none from if_neg (by rintro ⟨k1,⟨k2,k3⟩,k4,k5⟩;clear hw;first|omega|exact absurd (Al g22).2 (by simp[k5])|exact absurd (h17.2 k1) (by simp_all))];exact⟨(none,0),rfl,Nat.le_refl _,(hw.Md none).fin⟩
 ·try exact nv c33
  all_goals
   have hcv:=h17.1 (by simpa using g19)
   have hh:=H4 g22 hcv
   obtain⟨k,rfl⟩:=Int.eq_ofNat_of_zero_le (show 0<=i by omega)
   have hk:=Xy (hcv.bv hb hb2) (k:=k) (by omega) hh (r:=r) (by omega)
  all_goals (refine bB ?_;refine pK ?_;refine pY ?_;refine aC (cF (hc:=λ w1 hw=>by have:=Li (w:=w1) k r (by omega) hcv hb hb2 (hr.fP hw.done);rw[hk.1,hk.2] at this;exact this)) (λ x38 h38=>?_);refine zH ?_)
  all_goals
   refine bD Tryz.results249 (λ w hw=>?_)
   rw[show cz n xs ys b (k:Int) r=some (dL b (k:Int),uL xs (lS b (k:Int)) r) from if_pos ⟨hcv,⟨by omega,by omega⟩,by omega,hh⟩];exact⟨x38,rfl,h38,hw.fin⟩
theorem Mk(i r:Int)(hb:n.bm=(b:Int))(hb2:b<18446744073709551616)(hr:qS w n xs ys):Calls Tryz.prog 220 #[n.v,.int .i64 i,.int .i64 r] w (Yj w (nu n xs ys b i r)):=by
 refine enter Tryz.func220 Tryz.ntmps220 rfl rfl (SF.s2 hr.br hr.pr) ?_
 simp only[bY]
 simp only[Nd.v,Nd.cells]
 refine J0 ?_;refine bO (λ x3=>?_);refine aI (λ x6=>?_);refine iZ ?_;refine Ta ?_;refine aR (cV (hc:=λ w1 hw=>nP (n:=n) i hb hb2 (hr.fP hw.done))) (λ x13=>?_);refine aA ?_;refine aB (jI rf rfl) rfl ?_;refine aB (jI rf rfl) rfl ?_;refine J8 ?_;refine J2 ?_;refine En ?_
 (refine eM 18 (λ g18=>?_) (λ g18=>?_)<;>(first|refine aJ ?_|(refine aF ?_;refine aA ?_)))
 all_goals (refine pq ?_;refine aH ?_)
 all_goals
 refine bE (λ c21=>?_) (λ c21=>?_)
 ·all_goals (refine J0 ?_;refine bJ ?_;refine zH ?_)
  all_goals
   refine bD Tryz.results220 (λ w hw=>?_)
   rw[show nu n xs ys b i r=none from if_neg (by rintro ⟨k1,k4,k5⟩;clear hw;first|omega|exact absurd (H4 (by simpa using g18) k1) (by simp[k5]))];exact⟨(none,0),rfl,Nat.le_refl _,(hw.Md none).fin⟩
 ·try exact nv c21
  all_goals
   have hc:=Al (by simpa using g18)
   have hcv:=hc.1
   have hh:=hc.2
   obtain⟨q1,q2,_,_⟩:=rO hh
   obtain⟨k,rfl⟩:=Int.eq_ofNat_of_zero_le q1
   have hk:=Yc (hcv.bv hb hb2) (k:=k) (by omega) hh (r:=r) (by omega)
  all_goals (refine bB ?_;refine pK ?_;refine pY ?_;refine aC (cF (hc:=λ w1 hw=>by have:=Li (w:=w1) k r (by omega) hcv hb hb2 (hr.fP hw.done);rw[hk.1,hk.2] at this;exact this)) (λ x26 h26=>?_);refine zH ?_)
  all_goals
   refine bD Tryz.results220 (λ w hw=>?_)
   rw[show nu n xs ys b (k:Int) r=some (b,zE xs (lS b (k:Int)) r) from if_pos ⟨hcv,by omega,hh⟩];exact⟨x26,rfl,h26,hw.fin⟩
theorem Na(i:Int)(hb:n.bm=(b:Int))(hb2:b<18446744073709551616)(hr:qS w n xs ys):Calls Tryz.prog 252 #[n.v,.int .i64 i] w (Yj w (nk n xs ys b i)):=by
 refine enter Tryz.func252 Tryz.ntmps252 rfl rfl (SF.s2 hr.br hr.pr) ?_
 simp only[bY]
 simp only[Nd.v,Nd.cells]
 refine J0 ?_;refine bO (λ x2=>?_);refine aI (λ x4=>?_);refine iZ ?_;refine Ta ?_;refine aR (cV (hc:=λ w1 hw=>nP (n:=n) i hb hb2 (hr.fP hw.done))) (λ x11=>?_);refine aA ?_;refine aB (jI rf rfl) rfl ?_;refine aB (jI rf rfl) rfl ?_;refine J8 ?_;refine J2 ?_;refine oX ?_
 refine bE (λ c15=>?_) (λ c15=>?_)
 ·refine J0 ?_;refine bJ ?_;refine zH ?_
  refine bD Tryz.results252 (λ w hw=>?_)
  rw[show nk n xs ys b i=none from if_neg (by rintro ⟨k1,k5⟩;clear hw;exact absurd (H4 c15 k1) (by simp[k5]))];exact⟨(none,0),rfl,Nat.le_refl _,(hw.Md none).fin⟩
 ·have hc:=Al c15
  have hcv:=hc.1
  have hh:=hc.2
  obtain⟨q1,q2,_,_⟩:=rO hh
  obtain⟨k,rfl⟩:=Int.eq_ofNat_of_zero_le q1
  have hk:=Yz (hcv.bv hb hb2) (k:=k) (by omega) hh
  refine bB ?_;refine Ta ?_;refine aC (cF (hc:=λ w1 hw=>by have:=Li (w:=w1) k 0 (by omega) hcv hb hb2 (hr.fP hw.done);rw[hk.1,hk.2] at this;exact this)) (λ x19 h19=>?_);refine zH ?_
  refine bD Tryz.results252 (λ w hw=>?_)
  rw[show nk n xs ys b (k:Int)=some (vF b (k:Int),rK xs (lS b (k:Int))) from if_pos ⟨hcv,hh⟩];exact⟨x19,rfl,h19,hw.fin⟩
end
end

end Go.Proofs.YtbajmaoegmbfgaaGreat
