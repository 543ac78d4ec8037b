/- Branches: the reference's build, Inserted, Updated, Removed. -/
import Derived.Test.YtbajmaoegmbfgaaGreatGBr2
import Derived.Test.YtbajmaoegmbfgaaGreatGJoin

set_option linter.unusedSimpArgs false
set_option linter.unusedVariables false
namespace Go.Proofs.YtbajmaoegmbfgaaGreat
section
open Go.RowKit Go.Ct
def gE(b:Nat)(xs:List Int)(i:Nat)(r:Int):Nat->Option Int:=Mo (sY b xs) i (if 0<r then some r else none)
theorem nK{m:Nat->Option Int}{k:Nat}{v:Int}(h:m k=some v)(hk:k<64):dI (A2 m k) (k:Int)=A2 m (k+1)/\qZ m k++[v]=qZ m (k+1):=by
 simp only[A2,qZ,h,dI,Option.isSome_some,if_true,Option.toList,Int.toNat_natCast,and_true]
 exact if_pos (by omega)
theorem nG{m:Nat->Option Int}{k:Nat}(h:m k=none):A2 m k=A2 m (k+1)/\qZ m k=qZ m (k+1):=by
 simp[A2,qZ,h]
theorem zN(m:Nat->Option Int){k:Nat}(hk:k<=64):A2 m k<18446744073709551616:=Nat.lt_of_lt_of_le (bz m k) (Nat.pow_le_pow_right (n:=2) (by decide) hk)
theorem T5(m:Nat->Option Int):∀k,(qZ m k).length<=k
 | 0=>Nat.le_refl _
 | k+1=>by have:=T5 m k;simp only[qZ,List.length_append];cases m k<;>simp<;>omega
section
variable{n:Nd}{xs:List Int}{ys:List Pr}{w:World}{b:Nat}
theorem Vf(hcv:CV n xs ys){k:Nat}(hk:k<64):Dk n xs ys b (k:Int)=sY b xs k:=by
 unfold Dk sY
 have h1:nP b (k:Int)=b.testBit k:=by rw[zP b (by omega) (by omega),Int.toNat_natCast]
 have h2:lQ b (k:Int)=fX b k:=by unfold lQ;rw[Int.toNat_natCast,Nat.min_eq_left (by omega)]
 rw[h1,h2]
 by_cases h:b.testBit k=true<;>simp[h,hcv]
theorem D9{i k:Nat}{r:Int}(hcv:CV n xs ys)(hk:k<64)(h:(k:Int)≠(i:Int)):gE b xs i r k=Dk n xs ys b (k:Int):=by
 rw[Vf hcv hk]
 exact if_neg (by omega)
theorem D3{i k:Nat}{r:Int}(h:(k:Int)=(i:Int)):gE b xs i r k=if 0<r then some r else none:=if_pos (by omega)
theorem Vw{o:Option Int}(h:o.isSome=true):o=some (o.getD 0):=by cases o<;>simp_all
theorem Vs{o:Option Int}(h:o.isSome=false):o=none:=by cases o<;>simp_all
set_option maxHeartbeats 800000 in
theorem Ma(i:Nat)(r:Int)(_hi:i<64)(hcv:CV n xs ys)(hb:n.bm=(b:Int))(hb2:b<18446744073709551616)(hr:qI w n xs ys) :
    Calls Tryz.prog 244 #[n.v,.int .i64 (i:Int),.int .i64 r] w λ e w'=>∃x:Option Addr×Nat,e=.returned (cn (A2 (gE b xs i r) 64) (qZ (gE b xs i r) 64) x).v/\(qZ (gE b xs i r) 64).length<=x.2/\SF w [] [] [] [(x.1,aH (qZ (gE b xs i r) 64))] [] w':=by
  have e1:=hr.brN
  refine enter Tryz.func244 Tryz.ntmps244 rfl rfl (SF.s2 hr.br hr.pr) ?_
  simp only[bY]
  simp only[Nd.v,Nd.cells]
  refine J0 ?_;refine bN (λ x3=>?_);refine aI (λ x6=>?_);refine aG ?_;refine J0 ?_;refine bJ ?_;refine aI (λ x7=>?_);refine J5 ?_;refine aV ?_;refine Hr ?_
  refine oB [8,9,10,12,13,14,15,16,17,18,19,20,21,22,23,24,25,26,27,28,29,30,31,32,33,34,35,36,37,38,39] (λ y:Nat×Option Addr×Nat=>[(8,.int .i64 ((y.1:Nat):Int))]) (λ y=>y.1<=64/\(qZ (gE b xs i r) y.1).length<=y.2.2) (λ y=>[(x7,.cells ⟨[.int .i64 3,.int .i64 0,.int .i64 0,.int .u64 ((A2 (gE b xs i r) y.1:Nat):Int),.slice y.2.1 (qZ (gE b xs i r) y.1).length y.2.2,.int .u64 0,.string ⟨#[]⟩,.int .u64 0,.slice none 0 0,.int .i64 0,.int .i64 0,.int .i64 0,.int .i64 0,.int .i64 0]⟩ 47),(x6,.cells ⟨Nd.zero.cells⟩ 47),(x3,.cells ⟨n.cells⟩ 47)]) (λ _=>_) (λ y=>[⟨y.2.1,aH (qZ (gE b xs i r) y.1),y.2.2,37,1⟩]) (λ y=>64-y.1) ((0,none,0)) (⟨Nat.zero_le _,Nat.le_refl _⟩) (λ y f hx=>?_) (hw0:=λ w hw=>(hw.lZ 37 1).back)
  dsimp only[gU,List.map,List.cons_append,List.nil_append]
  have hll:=T5 (gE b xs i r) y.1
  refine kK ?_;refine xD ?_
  refine bE (λ c13=>?_) (λ c13=>?_)
  · refine qP ?_;refine Q3 ?_;refine aQ (cV (hc:=λ w1 hw=>nL (n:=n) (y.1:Int) hb hb2 (hr.fI hw.done))) (λ x19=>?_);refine aA ?_;refine aB (jB rf rfl) rfl ?_;refine aB (jB rf rfl) rfl ?_;refine J8 ?_;refine Dg ?_;refine tN ?_
    refine bE (λ c24=>?_) (λ c24=>?_)
    · refine Lq ?_;refine Da ?_;refine J8 ?_;refine J2 ?_;refine aG ?_
      refine bE (λ c28=>?_) (λ c28=>?_)
      · first
         | have hm:gE b xs i r y.1=some r:=by rw[D3 c24,if_pos (by omega)]
         | have hm:gE b xs i r y.1=some ((Dk n xs ys b (y.1:Int)).getD 0):=by rw[D9 hcv (by omega) c24];exact Vw c28
        refine eE [29,30,31,32,33,34,35,36,37,38,39] (λ z:Nat×Option Addr×Nat=>[]) (λ z=>(qZ (gE b xs i r) y.1).length+1<=z.2.2) (λ z=>[(x7,.cells ⟨[.int .i64 3,.int .i64 0,.int .i64 0,.int .u64 ((A2 (gE b xs i r) (y.1+1):Nat):Int),.slice z.2.1 (qZ (gE b xs i r) (y.1+1)).length z.2.2,.int .u64 0,.string ⟨#[]⟩,.int .u64 0,.slice none 0 0,.int .i64 0,.int .i64 0,.int .i64 0,.int .i64 0,.int .i64 0]⟩ 47),(x6,.cells ⟨Nd.zero.cells⟩ 47),(x3,.cells ⟨n.cells⟩ 47)]) (λ z=>[]) (λ z=>[⟨z.2.1,aH (qZ (gE b xs i r) (y.1+1)),z.2.2,37,1⟩]) (by decide) (λ _=>by exact rfl) ?_ (λ z f hx=>?_)
        · refine iB (.one 0 [] (.one 1 [] (.one 2 [] (.one 4 [] (.one 5 [] (.one 6 [] (.two 3 [5] (.one 9 [] (.one 7 [1,5] (.one 8 [] (.one 10 [] (.one 11 [] (.one 12 [] .nil)))))) 0 [] (.two 7 [1,5] (.one 3 [5] (.one 9 [] (.one 8 [] (.one 10 [] (.one 11 [] (.one 12 [] .nil)))))) 0 [] .nil)))))))) ?_
          refine mL ?_;refine aN ?_;refine mL ?_;refine aN ?_
          refine iF (E:=[3,7]) (by decide +kernel) ((.cons ?_ (.cons ?_ .nil)))
          · refine Dc (i:=3) (hq:=(cV (hc:=λ w1 hw=>mZ (zN (gE b xs i r) (k:=y.1) (by omega)) (y.1:Int) w1))) (h:=λ x32=>?_)
            refine aR ?_;refine cE (h:=λ x36=>?_);((refine zY (h:=λ x37=>?_);try (refine eW (λ h37=>?_))));refine Qo ?_;refine Ag ?_
            refine eT ((0,x37)) ?_ (hw1:=λ w hw=>by obtain⟨k1,k2⟩:=nK hm (by omega);rw[k1,show(qZ (gE b xs i r) y.1).length+1=(qZ (gE b xs i r) (y.1+1)).length by rw[<- k2];simp,k2] at hw;exact hw.back)
            · exact h37
          · refine zV (i:=7) (h:=λ x36=>?_)
            refine cL (i:=3) (hq:=(cV (hc:=λ w1 hw=>mZ (zN (gE b xs i r) (k:=y.1) (by omega)) (y.1:Int) w1))) (h:=λ x32=>?_);refine aR ?_;((refine zY (h:=λ x37=>?_);try (refine eW (λ h37=>?_))));refine Qo ?_;refine Ag ?_
            refine eT ((0,x37)) ?_ (hw1:=λ w hw=>by obtain⟨k1,k2⟩:=nK hm (by omega);rw[k1,show(qZ (gE b xs i r) y.1).length+1=(qZ (gE b xs i r) (y.1+1)).length by rw[<- k2];simp,k2] at hw;exact hw.back)
            · exact h37
        dsimp only[gU,List.map,List.cons_append,List.nil_append]
        refine eU ?_;refine yU ?_
        refine iS ((by exact(y.1+1,z.2))) ?_ (hw1:=λ w hw=>by exact hw.back)
        · first
           | exact⟨by omega,by have k2:=(nK hm (by omega)).2;simp only[];rw[<- k2,List.length_append];exact hx⟩
           | exact⟨by omega,by simp only[];rw[<- (nG hm).2];exact hx.2⟩
      · have hm:gE b xs i r y.1=none:=by
         first
          | (rw[D3 c24,if_neg (by omega)];done)
          | (rw[D9 hcv (by omega) c24];exact Vs c28)
        refine nY ?_;refine yU ?_
        refine iS ((by exact(y.1+1,y.2))) ?_ (hw1:=λ w hw=>by(rw[(nG hm).1,(nG hm).2] at hw;exact hw.back))
        · first
           | exact⟨by omega,by have k2:=(nK hm (by omega)).2;simp only[];rw[<- k2,List.length_append];exact hx⟩
           | exact⟨by omega,by simp only[];rw[<- (nG hm).2];exact hx.2⟩
    · refine aZ ?_;refine J2 ?_;refine aG ?_
      refine bE (λ c28=>?_) (λ c28=>?_)
      · first
         | have hm:gE b xs i r y.1=some r:=by rw[D3 c24,if_pos (by omega)]
         | have hm:gE b xs i r y.1=some ((Dk n xs ys b (y.1:Int)).getD 0):=by rw[D9 hcv (by omega) c24];exact Vw c28
        refine eE [29,30,31,32,33,34,35,36,37,38,39] (λ z:Nat×Option Addr×Nat=>[]) (λ z=>(qZ (gE b xs i r) y.1).length+1<=z.2.2) (λ z=>[(x7,.cells ⟨[.int .i64 3,.int .i64 0,.int .i64 0,.int .u64 ((A2 (gE b xs i r) (y.1+1):Nat):Int),.slice z.2.1 (qZ (gE b xs i r) (y.1+1)).length z.2.2,.int .u64 0,.string ⟨#[]⟩,.int .u64 0,.slice none 0 0,.int .i64 0,.int .i64 0,.int .i64 0,.int .i64 0,.int .i64 0]⟩ 47),(x6,.cells ⟨Nd.zero.cells⟩ 47),(x3,.cells ⟨n.cells⟩ 47)]) (λ z=>[]) (λ z=>[⟨z.2.1,aH (qZ (gE b xs i r) (y.1+1)),z.2.2,37,1⟩]) (by decide) (λ _=>by exact rfl) ?_ (λ z f hx=>?_)
        · refine iB (.one 0 [] (.one 1 [] (.one 2 [] (.one 4 [] (.one 5 [] (.one 6 [] (.two 3 [5] (.one 9 [] (.one 7 [1,5] (.one 8 [] (.one 10 [] (.one 11 [] (.one 12 [] .nil)))))) 0 [] (.two 7 [1,5] (.one 3 [5] (.one 9 [] (.one 8 [] (.one 10 [] (.one 11 [] (.one 12 [] .nil)))))) 0 [] .nil)))))))) ?_
          refine mL ?_;refine aN ?_;refine mL ?_;refine aN ?_
          refine iF (E:=[3,7]) (by decide +kernel) ((.cons ?_ (.cons ?_ .nil)))
          · refine Dc (i:=3) (hq:=(cV (hc:=λ w1 hw=>mZ (zN (gE b xs i r) (k:=y.1) (by omega)) (y.1:Int) w1))) (h:=λ x32=>?_)
            refine aR ?_;refine cE (h:=λ x36=>?_);((refine zY (h:=λ x37=>?_);try (refine eW (λ h37=>?_))));refine Qo ?_;refine Ag ?_
            refine eT ((0,x37)) ?_ (hw1:=λ w hw=>by obtain⟨k1,k2⟩:=nK hm (by omega);rw[k1,show(qZ (gE b xs i r) y.1).length+1=(qZ (gE b xs i r) (y.1+1)).length by rw[<- k2];simp,k2] at hw;exact hw.back)
            · exact h37
          · refine zV (i:=7) (h:=λ x36=>?_)
            refine cL (i:=3) (hq:=(cV (hc:=λ w1 hw=>mZ (zN (gE b xs i r) (k:=y.1) (by omega)) (y.1:Int) w1))) (h:=λ x32=>?_);refine aR ?_;((refine zY (h:=λ x37=>?_);try (refine eW (λ h37=>?_))));refine Qo ?_;refine Ag ?_
            refine eT ((0,x37)) ?_ (hw1:=λ w hw=>by obtain⟨k1,k2⟩:=nK hm (by omega);rw[k1,show(qZ (gE b xs i r) y.1).length+1=(qZ (gE b xs i r) (y.1+1)).length by rw[<- k2];simp,k2] at hw;exact hw.back)
            · exact h37
        dsimp only[gU,List.map,List.cons_append,List.nil_append]
        refine eU ?_;refine yU ?_
        refine iS ((by exact(y.1+1,z.2))) ?_ (hw1:=λ w hw=>by exact hw.back)
        · first
           | exact⟨by omega,by have k2:=(nK hm (by omega)).2;simp only[];rw[<- k2,List.length_append];exact hx⟩
           | exact⟨by omega,by simp only[];rw[<- (nG hm).2];exact hx.2⟩
      · have hm:gE b xs i r y.1=none:=by
         first
          | (rw[D3 c24,if_neg (by omega)];done)
          | (rw[D9 hcv (by omega) c24];exact Vs c28)
        refine nY ?_;refine yU ?_
        refine iS ((by exact(y.1+1,y.2))) ?_ (hw1:=λ w hw=>by(rw[(nG hm).1,(nG hm).2] at hw;exact hw.back))
        · first
           | exact⟨by omega,by have k2:=(nK hm (by omega)).2;simp only[];rw[<- k2,List.length_append];exact hx⟩
           | exact⟨by omega,by simp only[];rw[<- (nG hm).2];exact hx.2⟩
  · refine bM rfl ?_;refine oV ?_;refine J5 ?_
    refine bC Tryz.results244 (λ w hw=>?_)
    have hy:y.1=64:=by omega
    rw[hy] at hw hx ⊢
    generalize A2 (gE b xs i r) 64=B at hw ⊢
    generalize qZ (gE b xs i r) 64=L at hw hx ⊢
    exact⟨y.2,rfl,hx.2,SF.frz hw.aU⟩
end
end

/- Branches: the reference's Inserted, Updated, Removed. -/
section
open Go.RowKit Go.Ct
theorem of_eq{m:Nat->Option Int}{b:Nat}{xs:List Int}(h:BV b xs/\∀k,k<64->sY b xs k=m k):A2 m 64=b/\qZ m 64=xs:=by
 obtain⟨h1,h2⟩:=M3 64 λ k hk=>(h.2 k hk).symm
 obtain⟨h3,h4⟩:=aa h.1
 exact⟨h1.trans h3,h2.trans h4⟩
theorem oX{k:Nat}(b:Nat)(hk:k<64):dI b (k:Int)=b ||| 2^k:=by
 unfold dI;rw[if_pos (by omega),Int.toNat_natCast]
theorem sX{k:Nat}(b:Nat)(hk:k<64):vV b (k:Int)=b ^^^ (b &&& 2^k):=by
 unfold vV;rw[if_pos (by omega),Int.toNat_natCast]
theorem nQ{k:Nat}(b:Nat)(hk:k<64):lQ b (k:Int)=fX b k:=by
 unfold lQ;rw[Int.toNat_natCast,Nat.min_eq_left (by omega)]
theorem pS{k:Nat}(b:Nat)(hk:k<64):nP b (k:Int)=b.testBit k:=by
 rw[zP b (by omega) (by omega),Int.toNat_natCast]
theorem Xb{b k:Nat}{xs:List Int}{r:Int}(h:BV b xs)(hk:k<64)(hb:nP b (k:Int)=false)(hr:1<=r):A2 (gE b xs k r) 64=dI b (k:Int)/\qZ (gE b xs k r) 64=tR xs (lQ b (k:Int)) r:=by
 rw[pS b hk] at hb
 rw[oX b hk,nQ b hk]
 unfold gE
 rw[if_pos (by omega)]
 exact of_eq (Gi h hk hb hr)
theorem Wl{b k:Nat}{xs:List Int}{r:Int}(h:BV b xs)(hk:k<64)(hb:nP b (k:Int)=true)(hr:1<=r):A2 (gE b xs k r) 64=b/\qZ (gE b xs k r) 64=yL xs (lQ b (k:Int)) r:=by
 rw[pS b hk] at hb
 rw[nQ b hk]
 unfold gE
 rw[if_pos (by omega)]
 exact of_eq (Qn h hk hb hr)
theorem Wp{b k:Nat}{xs:List Int}(h:BV b xs)(hk:k<64)(hb:nP b (k:Int)=true):A2 (gE b xs k 0) 64=vV b (k:Int)/\qZ (gE b xs k 0) 64=rQ xs (lQ b (k:Int)):=by
 rw[pS b hk] at hb
 rw[sX b hk,nQ b hk]
 unfold gE
 rw[if_neg (by omega)]
 exact of_eq (Rh h hk hb)
section
variable{n:Nd}{xs:List Int}{ys:List Pr}{w:World}{b:Nat}
theorem zO{i:Int}(h:(Dk n xs ys b i).isSome=true):CV n xs ys/\nP b i=true:=by
 unfold Dk at h
 split at h
 ·assumption
 ·cases h
theorem Gv{i:Int}(h:(Dk n xs ys b i).isSome=false)(hcv:CV n xs ys):nP b i=false:=by
 unfold Dk at h
 split at h
 ·cases h
 ·rename_i hn
  cases hh:nP b i with
  | false=>rfl
  | true=>exact absurd ⟨hcv,hh⟩ hn
theorem H4(i r:Int)(hb:n.bm=(b:Int))(hb2:b<18446744073709551616)(hr:qI w n xs ys):Calls Tryz.prog 249 #[n.v,.int .i64 i,.int .i64 r] w (Xr w (bn n xs ys b i r)):=by
 refine enter Tryz.func249 Tryz.ntmps249 rfl rfl (SF.s2 hr.br hr.pr) ?_
 simp only[bY]
 simp only[Nd.v,Nd.cells]
 refine J0 ?_;refine bN (λ x3=>?_);refine aI (λ x6=>?_);refine iT ?_;refine Q3 ?_;refine aQ (cV (hc:=λ w1 hw=>nL (n:=n) i hb hb2 (hr.fI hw.done))) (λ x13=>?_);refine aA ?_;refine aB (jB rf rfl) rfl ?_;refine aB (jB rf rfl) rfl ?_;refine J8 ?_;refine oV ?_;refine aC (c0 (V:=.bool) (hc:=λ w1 hw=>kw (n:=n) hb hb2 (hr.fI hw.done))) (λ x17 h17=>?_);refine Gh ?_
 (refine eM 19 (λ g19=>?_) (λ g19=>?_)<;>(first|refine aJ ?_|(refine aF ?_;refine aA ?_)))
 all_goals (refine cH ?_;refine aA ?_)
 all_goals (first|refine aJ ?_|(refine eM 22 (λ g22=>?_) (λ g22=>?_)<;>(first|refine aJ ?_|(refine aF ?_;refine aA ?_))))
 all_goals (refine r5 ?_;refine aA ?_)
 all_goals (first|refine aJ ?_|(refine eM 26 (λ g26=>?_) (λ g26=>?_)<;>(first|refine aJ ?_|(refine aF ?_;refine aA ?_))))
 all_goals (refine Iz ?_;refine aA ?_)
 all_goals (first|refine aJ ?_|(refine eM 30 (λ g30=>?_) (λ g30=>?_)<;>(first|refine aJ ?_|(refine aF ?_;refine aA ?_))))
 all_goals (refine r5 ?_;refine aG ?_)
 all_goals
 refine bE (λ c33=>?_) (λ c33=>?_)
 ·all_goals (refine J0 ?_;refine bJ ?_;refine yT ?_)
  all_goals
   refine bC Tryz.results249 (λ w hw=>?_)
   rw[show bn n xs ys b i r=none from if_neg (by rintro ⟨k1,⟨k2,k3⟩,k4,k5⟩;clear hw;first|omega|exact absurd (zO g22).2 (by simp[k5])|exact absurd (h17.2 k1) (by simp_all))];exact⟨(none,0),rfl,Nat.le_refl _,(hw.Kl none).fin⟩
 ·try exact nv c33
  all_goals
   have hcv:=h17.1 (by simpa using g19)
   have hh:=Gv g22 hcv
   obtain⟨k,rfl⟩:=Int.eq_ofNat_of_zero_le (show 0<=i by omega)
   have hk:=Xb (hcv.bv hb hb2) (k:=k) (by omega) hh (r:=r) (by omega)
  all_goals (refine aZ ?_;refine oV ?_;refine pV ?_;refine aC (cF (hc:=λ w1 hw=>by have:=Ma (w:=w1) k r (by omega) hcv hb hb2 (hr.fI hw.done);rw[hk.1,hk.2] at this;exact this)) (λ x38 h38=>?_);refine yT ?_)
  all_goals
   refine bC Tryz.results249 (λ w hw=>?_)
   rw[show bn n xs ys b (k:Int) r=some (dI b (k:Int),tR xs (lQ b (k:Int)) r) from if_pos ⟨hcv,⟨by omega,by omega⟩,by omega,hh⟩];exact⟨x38,rfl,h38,hw.fin⟩
theorem Mc(i r:Int)(hb:n.bm=(b:Int))(hb2:b<18446744073709551616)(hr:qI w n xs ys):Calls Tryz.prog 220 #[n.v,.int .i64 i,.int .i64 r] w (Xr w (lx n xs ys b i r)):=by
 refine enter Tryz.func220 Tryz.ntmps220 rfl rfl (SF.s2 hr.br hr.pr) ?_
 simp only[bY]
 simp only[Nd.v,Nd.cells]
 refine J0 ?_;refine bN (λ x3=>?_);refine aI (λ x6=>?_);refine iT ?_;refine Q3 ?_;refine aQ (cV (hc:=λ w1 hw=>nL (n:=n) i hb hb2 (hr.fI hw.done))) (λ x13=>?_);refine aA ?_;refine aB (jB rf rfl) rfl ?_;refine aB (jB rf rfl) rfl ?_;refine J8 ?_;refine J2 ?_;refine Gh ?_
 (refine eM 18 (λ g18=>?_) (λ g18=>?_)<;>(first|refine aJ ?_|(refine aF ?_;refine aA ?_)))
 all_goals (refine r5 ?_;refine aG ?_)
 all_goals
 refine bE (λ c21=>?_) (λ c21=>?_)
 ·all_goals (refine J0 ?_;refine bJ ?_;refine yT ?_)
  all_goals
   refine bC Tryz.results220 (λ w hw=>?_)
   rw[show lx n xs ys b i r=none from if_neg (by rintro ⟨k1,k4,k5⟩;clear hw;first|omega|exact absurd (Gv (by simpa using g18) k1) (by simp[k5]))];exact⟨(none,0),rfl,Nat.le_refl _,(hw.Kl none).fin⟩
 ·try exact nv c21
  all_goals
   have hc:=zO (by simpa using g18)
   have hcv:=hc.1
   have hh:=hc.2
   obtain⟨q1,q2,_,_⟩:=rD hh
   obtain⟨k,rfl⟩:=Int.eq_ofNat_of_zero_le q1
   have hk:=Wl (hcv.bv hb hb2) (k:=k) (by omega) hh (r:=r) (by omega)
  all_goals (refine aZ ?_;refine oV ?_;refine pV ?_;refine aC (cF (hc:=λ w1 hw=>by have:=Ma (w:=w1) k r (by omega) hcv hb hb2 (hr.fI hw.done);rw[hk.1,hk.2] at this;exact this)) (λ x26 h26=>?_);refine yT ?_)
  all_goals
   refine bC Tryz.results220 (λ w hw=>?_)
   rw[show lx n xs ys b (k:Int) r=some (b,yL xs (lQ b (k:Int)) r) from if_pos ⟨hcv,by omega,hh⟩];exact⟨x26,rfl,h26,hw.fin⟩
theorem Lw(i:Int)(hb:n.bm=(b:Int))(hb2:b<18446744073709551616)(hr:qI w n xs ys):Calls Tryz.prog 252 #[n.v,.int .i64 i] w (Xr w (ls n xs ys b i)):=by
 refine enter Tryz.func252 Tryz.ntmps252 rfl rfl (SF.s2 hr.br hr.pr) ?_
 simp only[bY]
 simp only[Nd.v,Nd.cells]
 refine J0 ?_;refine bN (λ x2=>?_);refine aI (λ x4=>?_);refine iT ?_;refine Q3 ?_;refine aQ (cV (hc:=λ w1 hw=>nL (n:=n) i hb hb2 (hr.fI hw.done))) (λ x11=>?_);refine aA ?_;refine aB (jB rf rfl) rfl ?_;refine aB (jB rf rfl) rfl ?_;refine J8 ?_;refine J2 ?_;refine pA ?_
 refine bE (λ c15=>?_) (λ c15=>?_)
 ·refine J0 ?_;refine bJ ?_;refine yT ?_
  refine bC Tryz.results252 (λ w hw=>?_)
  rw[show ls n xs ys b i=none from if_neg (by rintro ⟨k1,k5⟩;clear hw;exact absurd (Gv c15 k1) (by simp[k5]))];exact⟨(none,0),rfl,Nat.le_refl _,(hw.Kl none).fin⟩
 ·have hc:=zO c15
  have hcv:=hc.1
  have hh:=hc.2
  obtain⟨q1,q2,_,_⟩:=rD hh
  obtain⟨k,rfl⟩:=Int.eq_ofNat_of_zero_le q1
  have hk:=Wp (hcv.bv hb hb2) (k:=k) (by omega) hh
  refine aZ ?_;refine Q3 ?_;refine aC (cF (hc:=λ w1 hw=>by have:=Ma (w:=w1) k 0 (by omega) hcv hb hb2 (hr.fI hw.done);rw[hk.1,hk.2] at this;exact this)) (λ x19 h19=>?_);refine yT ?_
  refine bC Tryz.results252 (λ w hw=>?_)
  rw[show ls n xs ys b (k:Int)=some (vV b (k:Int),rQ xs (lQ b (k:Int))) from if_pos ⟨hcv,hh⟩];exact⟨x19,rfl,h19,hw.fin⟩
end
end

end Go.Proofs.YtbajmaoegmbfgaaGreat
