/- Nodes are compared. -/
import Derived.Test.YtbajmaoegmbfgaaGreatGAr2

set_option linter.unusedSimpArgs false
set_option linter.unusedVariables false
namespace Go.Proofs.YtbajmaoegmbfgaaGreat
section
open Go.RowKit Go.Ct
theorem V2{a b:Nd}{x1 x2:List Int}{y1 y2:List Pr}{w:World}(ha:rK w a x1 y1)(hb:rK w b x2 y2) :
  Calls Tryz.prog 113 #[a.v,b.v] w λ e w'=>∃r:Bool,e=.returned (.bool r)/\(r=true↔rT a b x1 x2 y1 y2)/\St w [] [] w':=by
 have e1:=ha.brN;have e2:=hb.brN;have e3:=ha.prN;have e4:=hb.prN
 refine enter Tryz.func113 Tryz.ntmps113 rfl rfl (SF.s0 w) ?_
 simp only[bX]
 refine J0 ?_;refine bL (λ x2=>?_);refine bL (λ x3=>?_);refine hZ ?_;refine gM ?_;refine J3 ?_;refine kM ?_;refine aA ?_
 (refine eI 10 (λ g10=>?_) (λ g10=>?_)<;>(first|refine aJ ?_|(refine aF ?_;refine aE ?_)))
 all_goals (refine A6 ?_;refine Of ?_;refine aA ?_)
 all_goals (first|refine aJ ?_|(refine eI 17 (λ g17=>?_) (λ g17=>?_)<;>(first|refine aJ ?_|(refine aF ?_;refine aE ?_))))
 all_goals (refine A6 ?_;refine Of ?_;refine aA ?_)
 all_goals (first|refine aJ ?_|(refine eI 24 (λ g24=>?_) (λ g24=>?_)<;>(first|refine aJ ?_|(refine aF ?_;refine aE ?_))))
 all_goals (refine A6 ?_;refine Of ?_;refine aA ?_)
 all_goals (first|refine aJ ?_|(refine eI 31 (λ g31=>?_) (λ g31=>?_)<;>(first|refine aJ ?_|(refine aF ?_;refine aE ?_))))
 all_goals (refine A6 ?_;refine Of ?_;refine aA ?_)
 all_goals (first|refine aJ ?_|(refine eI 38 (λ g38=>?_) (λ g38=>?_)<;>(first|refine aJ ?_|(refine aF ?_;refine aE ?_))))
 all_goals (refine A6 ?_;(first|refine aJ ?_|(refine aF ?_;refine tw ?_));refine cJ ?_;refine aA ?_)
 all_goals (first|refine aJ ?_|(refine eI 45 (λ g45=>?_) (λ g45=>?_)<;>(first|refine aJ ?_|(refine aF ?_;refine aE ?_))))
 all_goals (refine A6 ?_;refine Of ?_;refine aG ?_)
 all_goals
 refine bC (λ c51=>?_) (λ c51=>?_)
 ·all_goals refine cR ?_
  all_goals
   refine aR Tryz.results113 (λ w hw=>?_)
   exact⟨_,rfl,by simp_all[rT],hw.done⟩
 ·try exact nv c51
  all_goals (refine aX ?_;refine gM ?_;refine J3 ?_;refine aP (cV (hc:=λ w1 hw=>by simp only[e1,e2];exact gh (ha.br.fT hw.st) (hb.br.fT hw.st) ha.brS)) (λ x56=>?_);refine aA ?_)
  all_goals ((refine eI 57 (λ g57=>?_) (λ g57=>?_)<;>(first|refine aJ ?_|(refine aF ?_;refine aE ?_))))
  all_goals (refine A6 ?_;(first|refine aJ ?_|(refine aF ?_;refine aP (cV (hc:=λ w1 hw=>by simp only[e3,e4];exact zn (ha.pr.fT hw.st) (hb.pr.fT hw.st) ha.prS)) (λ x62=>?_)));refine cJ ?_;refine aA ?_)
  all_goals (first|refine aJ ?_|(refine eI 64 (λ g64=>?_) (λ g64=>?_)<;>(first|refine aJ ?_|(refine aF ?_;refine aE ?_))))
  all_goals (refine A6 ?_;refine wW ?_;refine aA ?_)
  all_goals (first|refine aJ ?_|(refine eI 71 (λ g71=>?_) (λ g71=>?_)<;>(first|refine aJ ?_|(refine aF ?_;refine aE ?_))))
  all_goals (refine A6 ?_;refine wW ?_;refine aA ?_)
  all_goals (first|refine aJ ?_|(refine eI 78 (λ g78=>?_) (λ g78=>?_)<;>(first|refine aJ ?_|(refine aF ?_;refine aE ?_))))
  all_goals (refine A6 ?_;refine wW ?_;refine aA ?_)
  all_goals (first|refine aJ ?_|(refine eI 85 (λ g85=>?_) (λ g85=>?_)<;>(first|refine aJ ?_|(refine aF ?_;refine aE ?_))))
  all_goals (refine A6 ?_;refine wW ?_;refine aA ?_)
  all_goals (first|refine aJ ?_|(refine eI 92 (λ g92=>?_) (λ g92=>?_)<;>(first|refine aJ ?_|(refine aF ?_;refine aE ?_))))
  all_goals (refine A6 ?_;refine wW ?_;refine J1 ?_)
  all_goals
   refine aR Tryz.results113 (λ w hw=>?_)
   exact⟨_,rfl,by simp_all[rT],hw.done⟩
theorem yd{a b:Nd}{x1 x2:List Int}{y1 y2:List Pr}{w:World}(ha:rK w a x1 y1)(hb:rK w b x2 y2) :
  Calls Tryz.prog 196 #[a.v,b.v] w λ e w'=>∃r:Bool,e=.returned (.bool r)/\(r=true↔rT a b x1 x2 y1 y2)/\St w [] [] w':=by
 have e1:=ha.brN;have e2:=hb.brN;have e3:=ha.prN;have e4:=hb.prN
 refine enter Tryz.func196 Tryz.ntmps196 rfl rfl (SF.s0 w) ?_
 simp only[bX]
 refine J0 ?_;refine bL (λ x2=>?_);refine bL (λ x3=>?_);refine hZ ?_;refine Yo (by dsimp only[List.append]) ?_;refine J3 ?_;refine J3 ?_;refine lI ?_;refine aA ?_
 (refine eI 10 (λ g10=>?_) (λ g10=>?_)<;>(first|refine aJ ?_|(refine aF ?_;refine aE ?_)))
 all_goals (refine A6 ?_;refine wW ?_;refine aA ?_)
 all_goals (first|refine aJ ?_|(refine eI 17 (λ g17=>?_) (λ g17=>?_)<;>(first|refine aJ ?_|(refine aF ?_;refine aE ?_))))
 all_goals (refine A6 ?_;refine wW ?_;refine aA ?_)
 all_goals (first|refine aJ ?_|(refine eI 24 (λ g24=>?_) (λ g24=>?_)<;>(first|refine aJ ?_|(refine aF ?_;refine aE ?_))))
 all_goals (refine A6 ?_;refine wW ?_;refine aA ?_)
 all_goals (first|refine aJ ?_|(refine eI 31 (λ g31=>?_) (λ g31=>?_)<;>(first|refine aJ ?_|(refine aF ?_;refine aE ?_))))
 all_goals (refine A6 ?_;(first|refine aJ ?_|(refine aF ?_;refine aP (cV (hc:=λ w1 hw=>by simp only[e1,e2];exact q8 (ha.br.fT hw.st) (hb.br.fT hw.st) ha.brS)) (λ x36=>?_)));refine cJ ?_;refine aA ?_)
 all_goals (first|refine aJ ?_|(refine eI 38 (λ g38=>?_) (λ g38=>?_)<;>(first|refine aJ ?_|(refine aF ?_;refine aE ?_))))
 all_goals (refine A6 ?_;refine wW ?_;refine aA ?_)
 all_goals (first|refine aJ ?_|(refine eI 45 (λ g45=>?_) (λ g45=>?_)<;>(first|refine aJ ?_|(refine aF ?_;refine aE ?_))))
 all_goals (refine A6 ?_;(first|refine aJ ?_|(refine aF ?_;refine th ?_));refine cJ ?_;refine aA ?_)
 all_goals (first|refine aJ ?_|(refine eI 52 (λ g52=>?_) (λ g52=>?_)<;>(first|refine aJ ?_|(refine aF ?_;refine aE ?_))))
 all_goals (refine A6 ?_;refine wW ?_;refine aA ?_)
 all_goals (first|refine aJ ?_|(refine eI 59 (λ g59=>?_) (λ g59=>?_)<;>(first|refine aJ ?_|(refine aF ?_;refine aE ?_))))
 all_goals (refine A6 ?_;(first|refine aJ ?_|(refine aF ?_;refine aP (cV (hc:=λ w1 hw=>by simp only[e3,e4];exact uv (ha.pr.fT hw.st) (hb.pr.fT hw.st) ha.prS)) (λ x64=>?_)));refine cJ ?_;refine aA ?_)
 all_goals (first|refine aJ ?_|(refine eI 66 (λ g66=>?_) (λ g66=>?_)<;>(first|refine aJ ?_|(refine aF ?_;refine aE ?_))))
 all_goals (refine A6 ?_;refine wW ?_;refine aA ?_)
 all_goals (first|refine aJ ?_|(refine eI 73 (λ g73=>?_) (λ g73=>?_)<;>(first|refine aJ ?_|(refine aF ?_;refine aE ?_))))
 all_goals (refine A6 ?_;refine wW ?_;refine aA ?_)
 all_goals (first|refine aJ ?_|(refine eI 80 (λ g80=>?_) (λ g80=>?_)<;>(first|refine aJ ?_|(refine aF ?_;refine aE ?_))))
 all_goals (refine A6 ?_;refine wW ?_;refine aA ?_)
 all_goals (first|refine aJ ?_|(refine eI 87 (λ g87=>?_) (λ g87=>?_)<;>(first|refine aJ ?_|(refine aF ?_;refine aE ?_))))
 all_goals (refine A6 ?_;refine wW ?_;refine aA ?_)
 all_goals (first|refine aJ ?_|(refine eI 94 (λ g94=>?_) (λ g94=>?_)<;>(first|refine aJ ?_|(refine aF ?_;refine aE ?_))))
 all_goals (refine A6 ?_;refine wW ?_;refine J1 ?_)
 all_goals
 refine aR Tryz.results196 (λ w hw=>?_)
 exact⟨_,rfl,by simp_all[rT],hw.done⟩
theorem Si(a:Nd)(w:World):Calls Tryz.prog 80 #[a.v] w λ e w'=>∃r:Bool,e=.returned (.bool r)/\(r=true↔(a.kind=3∨a.kind=5∨a.kind=6))/\St w [] [] w':=by
 refine enter Tryz.func80 Tryz.ntmps80 rfl rfl (SF.s0 w) ?_
 simp only[bX]
 refine J0 ?_;refine bL (λ x1=>?_);refine hZ ?_;refine gM ?_;refine aG ?_;refine cZ ?_;refine aT ?_;refine lM ?_
 refine bC (λ c5=>?_) (λ c5=>?_)
 ·refine aX ?_
  refine bC (λ c5=>?_) (λ c5=>?_)
  ·refine cR ?_
   refine aR Tryz.results80 (λ w hw=>?_)
   exact⟨_,rfl,by simp_all,hw.done⟩
  ·refine oF ?_;refine cR ?_
   refine aR Tryz.results80 (λ w hw=>?_)
   exact⟨_,rfl,by simp_all,hw.done⟩
 ·refine lM ?_
  refine bC (λ c5=>?_) (λ c5=>?_)
  ·refine aX ?_
   refine bC (λ c5=>?_) (λ c5=>?_)
   ·refine cR ?_
    refine aR Tryz.results80 (λ w hw=>?_)
    exact⟨_,rfl,by simp_all,hw.done⟩
   ·refine oF ?_;refine cR ?_
    refine aR Tryz.results80 (λ w hw=>?_)
    exact⟨_,rfl,by simp_all,hw.done⟩
  ·refine dG ?_;refine Qq ?_
   refine bC (λ c5=>?_) (λ c5=>?_)
   ·refine cR ?_
    refine aR Tryz.results80 (λ w hw=>?_)
    exact⟨_,rfl,by simp_all,hw.done⟩
   ·refine oF ?_;refine cR ?_
    refine aR Tryz.results80 (λ w hw=>?_)
    exact⟨_,rfl,by simp_all,hw.done⟩
theorem xP(a:Nd)(w:World):Calls Tryz.prog 41 #[a.v] w λ e w'=>∃r:Bool,e=.returned (.bool r)/\(r=true↔(a.kind=3∨a.kind=5∨a.kind=6))/\St w [] [] w':=by
 refine enter Tryz.func41 Tryz.ntmps41 rfl rfl (SF.s0 w) ?_
 simp only[bX]
 refine J0 ?_;refine bL (λ x1=>?_);refine J1 ?_;refine gM ?_;refine lI ?_;refine aA ?_
 (refine eI 6 (λ g6=>?_) (λ g6=>?_)<;>(first|refine aJ ?_|(refine aF ?_;refine aE ?_)))
 all_goals (refine vh ?_;refine aA ?_)
 all_goals (first|refine aJ ?_|(refine eI 11 (λ g11=>?_) (λ g11=>?_)<;>(first|refine aJ ?_|(refine aF ?_;refine aE ?_))))
 all_goals (refine vh ?_;refine J1 ?_)
 all_goals
 refine aR Tryz.results41 (λ w hw=>?_)
 exact⟨_,rfl,by simp_all,hw.done⟩
end

/- Loops over slices that are read: contracts, the second part. -/
section
open Go.RowKit Go.Ct
theorem Rn{xs:List Int}{a:Option Addr}{ca:Nat}{w:World}(ha:Cl w a (aH xs))(hx:xs.length<4611686018427387904) :
  Calls Tryz.prog 199 #[.slice a xs.length ca] w λ e w'=>∃r:Bool,e=.returned (.bool r)/\(r=true↔Pos xs)/\St w [] [] w':=by
 refine enter Tryz.func199 Tryz.ntmps199 rfl rfl (SF.s1 ha) ?_
 simp only[bX]
 refine cR ?_;refine kY ?_;refine dE ?_;refine Ds ?_;refine cZ ?_
 refine fN [2,4,7,8,9,10,11,12,13] (λ k=>[(7,.int .i64 ((k:Nat):Int))]) (λ k=>k<=xs.length/\∀i,i<k->1<=xs.getD i 0) (λ k=>xs.length-k) (0) (⟨Nat.zero_le _,λ i hi=>absurd hi (Nat.not_lt_zero i)⟩) ?_ (λ k f hx=>?_)
 ·repeat (first|exact bJ _|refine bE (by exact rfl) ?_)
 dsimp only[gP,List.map,List.cons_append,List.nil_append]
 refine J0 ?_;refine yU ?_;refine aT ?_
 refine bC (λ c8=>?_) (λ c8=>?_)
 ·refine qG ?_;refine J0 ?_;refine Qp ?_;refine J1 ?_;refine J2 ?_;refine yU ?_
  refine bC (λ c12=>?_) (λ c12=>?_)
  ·refine cR ?_
   refine aR Tryz.results199 (λ w hw=>?_)
   exact⟨_,rfl,by simp only[Bool.false_eq_true,false_iff];intro h;have:=h k (by omega);omega,hw.done⟩
  ·refine oF ?_;refine W5 ?_;refine Ds ?_
   refine eJ (k+1) ?_ ?_ ?_
   ·omega
   ·repeat' (first|exact bJ _|refine bE ?_ ?_)
    exact rfl
   ·exact⟨by omega,λ i hi=>by rcases Nat.lt_succ_iff_lt_or_eq.1 hi with h|rfl;exact hx.2 i h;omega⟩
 ·refine bO rfl ?_;refine cR ?_
  refine aR Tryz.results199 (λ w hw=>?_)
  exact⟨_,rfl,by simp only[true_iff];intro i hi;exact hx.2 i (by omega),hw.done⟩
theorem O5{l:List Pr}{a:Option Addr}{ca:Nat}{w:World}(ha:Cl w a (dC l))(hx:l.length<4611686018427387904) :
  Calls Tryz.prog 200 #[.slice a l.length ca] w λ e w'=>∃r:Bool,e=.returned (.bool r)/\(r=true↔Fp l)/\St w [] [] w':=by
 refine enter Tryz.func200 Tryz.ntmps200 rfl rfl (SF.s1 ha) ?_
 simp only[bX]
 refine cR ?_;refine kY ?_;refine dE ?_;refine Ds ?_;refine cZ ?_
 refine fN [2,4,7,8,9,10,11,12,13,14,15] (λ k=>[(7,.int .i64 ((k:Nat):Int))]) (λ k=>k<=l.length/\∀i,i<k->(l.getD i (⟨#[]⟩,0)).1.size<=64) (λ k=>l.length-k) (0) (⟨Nat.zero_le _,λ i hi=>absurd hi (Nat.not_lt_zero i)⟩) ?_ (λ k f hx=>?_)
 ·repeat (first|exact bJ _|refine bE (by exact rfl) ?_)
 dsimp only[gP,List.map,List.cons_append,List.nil_append]
 refine J0 ?_;refine yU ?_;refine aT ?_
 refine bC (λ c8=>?_) (λ c8=>?_)
 ·refine qG ?_;refine J0 ?_;refine Qp ?_;refine aI (λ x4=>?_);refine J5 ?_;refine gM ?_;refine lX ?_;refine Dj ?_;refine aG ?_
  refine bC (λ c14=>?_) (λ c14=>?_)
  ·refine cR ?_
   refine aR Tryz.results200 (λ w hw=>?_)
   exact⟨_,rfl,by simp only[Bool.false_eq_true,false_iff];intro h;have:=h k (by omega);omega,hw.done⟩
  ·refine oF ?_;refine W5 ?_;refine Ds ?_
   refine eJ (k+1) ?_ ?_ ?_
   ·omega
   ·repeat' (first|exact bJ _|refine bE ?_ ?_)
    exact rfl
   ·exact⟨by omega,λ i hi=>by rcases Nat.lt_succ_iff_lt_or_eq.1 hi with h|rfl;exact hx.2 i h;omega⟩
 ·refine bO rfl ?_;refine cR ?_
  refine aR Tryz.results200 (λ w hw=>?_)
  exact⟨_,rfl,by simp only[true_iff];intro i hi;exact hx.2 i (by omega),hw.done⟩
theorem av{l:List Pr}{a:Option Addr}{ca:Nat}{w:World}(ha:Cl w a (dC l))(hx:l.length<4611686018427387904) :
  Calls Tryz.prog 171 #[.slice a l.length ca] w λ e w'=>∃r:Bool,e=.returned (.bool r)/\(r=true↔Fp l)/\St w [] [] w':=by
 refine enter Tryz.func171 Tryz.ntmps171 rfl rfl (SF.s1 ha) ?_
 simp only[bX]
 refine Il ?_;refine En ?_
 refine fN [2,3,4,5,6,7,8,9,10,11,12,13,14,15,16] (λ k=>[(3,.int .i64 ((k:Nat):Int))]) (λ k=>k<=l.length/\∀i,i<k->(l.getD i (⟨#[]⟩,0)).1.size<=64) (λ k=>l.length-k) (0) (⟨Nat.zero_le _,λ i hi=>absurd hi (Nat.not_lt_zero i)⟩) ?_ (λ k f hx=>?_)
 ·repeat (first|exact bJ _|refine bE (by exact rfl) ?_)
 dsimp only[gP,List.map,List.cons_append,List.nil_append]
 refine C6 ?_;refine dE ?_;refine yU ?_
 refine bC (λ c7=>?_) (λ c7=>?_)
 ·refine qG ?_;refine jA ?_;refine gB ?_;refine J3 ?_;refine lX ?_;refine Dj ?_;refine aG ?_
  refine bC (λ c16=>?_) (λ c16=>?_)
  ·refine cR ?_
   refine aR Tryz.results171 (λ w hw=>?_)
   exact⟨_,rfl,by simp only[Bool.false_eq_true,false_iff];intro h;have:=h k (by omega);omega,hw.done⟩
  ·refine oF ?_;refine xV ?_
   refine eJ (k+1) ?_ ?_ ?_
   ·omega
   ·repeat' (first|exact bJ _|refine bE ?_ ?_)
    exact rfl
   ·exact⟨by omega,λ i hi=>by rcases Nat.lt_succ_iff_lt_or_eq.1 hi with h|rfl;exact hx.2 i h;omega⟩
 ·refine bO rfl ?_;refine cR ?_
  refine aR Tryz.results171 (λ w hw=>?_)
  exact⟨_,rfl,by simp only[true_iff];intro i hi;exact hx.2 i (by omega),hw.done⟩
theorem Yh{l:List Pr}{a:Option Addr}{ca:Nat}{w:World}(ha:Cl w a (dC l))(hx:l.length<4611686018427387904) :
  Calls Tryz.prog 193 #[.slice a l.length ca] w λ e w'=>∃r:Bool,e=.returned (.bool r)/\(r=true↔tq l)/\St w [] [] w':=by
 refine enter Tryz.func193 Tryz.ntmps193 rfl rfl (SF.s1 ha) ?_
 simp only[bX]
 refine Il ?_;refine En ?_
 refine fN [2,3,4,5,6,7,8,9,10,11,12,13,14,15,16,17,18,19,20,21] (λ k=>[(3,.int .i64 ((k:Nat):Int))]) (λ k=>1<=k/\k<=l.length+1/\∀i,1<=i->i<k->dH (l.getD (i-1) (⟨#[]⟩,0)).1 (l.getD i (⟨#[]⟩,0)).1=true) (λ k=>l.length-k) (1) (⟨Nat.le_refl _,by omega,λ i h1 hi=>by omega⟩) ?_ (λ k f hx=>?_)
 ·repeat (first|exact bJ _|refine bE (by exact rfl) ?_)
 dsimp only[gP,List.map,List.cons_append,List.nil_append]
 refine C6 ?_;refine dE ?_;refine yU ?_
 refine bC (λ c7=>?_) (λ c7=>?_)
 ·refine qG ?_;refine aT ?_;refine gF [0,1,2,3,4,5,6,7,8,9,10,11] ?_;refine gT ?_;refine Oj ?_;refine iR ?_;refine nS ?_;refine gT ?_;refine iR ?_;refine nS ?_;refine cq ?_;refine eA ?_
  refine bC (λ c21=>?_) (λ c21=>?_)
  ·refine cR ?_
   refine aR Tryz.results193 (λ w hw=>?_)
   exact⟨_,rfl,by simp only[Bool.false_eq_true,false_iff];intro h;have:=h k (by omega) (by omega);rw[c21] at this;exact Bool.noConfusion this,hw.done⟩
  ·refine oF ?_;refine xV ?_
   refine eJ (k+1) ?_ ?_ ?_
   ·omega
   ·repeat' (first|exact bJ _|refine bE ?_ ?_)
    exact rfl
   ·exact⟨by omega,by omega,λ i h1 hi=>by rcases Nat.lt_succ_iff_lt_or_eq.1 hi with h|rfl;exact hx.2.2 i h1 h;exact c21⟩
 ·refine bO rfl ?_;refine cR ?_
  refine aR Tryz.results193 (λ w hw=>?_)
  exact⟨_,rfl,by simp only[true_iff];intro i h1 hi;exact hx.2.2 i h1 (by omega),hw.done⟩
theorem lY{l:List Pr}{a:Option Addr}{ca:Nat}{w:World}(ha:Cl w a (dC l))(hx:l.length<4611686018427387904) :
  Calls Tryz.prog 109 #[.slice a l.length ca] w λ e w'=>∃r:Bool,e=.returned (.bool r)/\(r=true↔tq l)/\St w [] [] w':=by
 refine enter Tryz.func109 Tryz.ntmps109 rfl rfl (SF.s1 ha) ?_
 simp only[bX]
 refine Il ?_;refine En ?_
 refine fN [2,3,4,5,6,7,8,9,10,11,12,13,14,15,16,17,18,19,20,21] (λ k=>[(3,.int .i64 ((k:Nat):Int))]) (λ k=>1<=k/\k<=l.length+1/\∀i,1<=i->i<k->dH (l.getD (i-1) (⟨#[]⟩,0)).1 (l.getD i (⟨#[]⟩,0)).1=true) (λ k=>l.length-k) (1) (⟨Nat.le_refl _,by omega,λ i h1 hi=>by omega⟩) ?_ (λ k f hx=>?_)
 ·repeat (first|exact bJ _|refine bE (by exact rfl) ?_)
 dsimp only[gP,List.map,List.cons_append,List.nil_append]
 refine C6 ?_;refine dE ?_;refine yU ?_
 refine bC (λ c7=>?_) (λ c7=>?_)
 ·refine qG ?_;refine aT ?_;refine gF [0,1,2,3,4,5,6,7,8,9,10,11] ?_;refine gT ?_;refine iR ?_;refine nS ?_;refine gT ?_;refine Oj ?_;refine iR ?_;refine nS ?_;refine gk ?_;refine eA ?_
  refine bC (λ c21=>?_) (λ c21=>?_)
  ·refine cR ?_
   refine aR Tryz.results109 (λ w hw=>?_)
   exact⟨_,rfl,by simp only[Bool.false_eq_true,false_iff];intro h;have:=h k (by omega) (by omega);rw[aAP c21] at this;exact Bool.noConfusion this,hw.done⟩
  ·refine oF ?_;refine xV ?_
   refine eJ (k+1) ?_ ?_ ?_
   ·omega
   ·repeat' (first|exact bJ _|refine bE ?_ ?_)
    exact rfl
   ·exact⟨by omega,by omega,λ i h1 hi=>by rcases Nat.lt_succ_iff_lt_or_eq.1 hi with h|rfl;exact hx.2.2 i h1 h;exact aAH c21⟩
 ·refine bO rfl ?_;refine cR ?_
  refine aR Tryz.results109 (λ w hw=>?_)
  exact⟨_,rfl,by simp only[true_iff];intro i h1 hi;exact hx.2.2 i h1 (by omega),hw.done⟩
end

end Go.Proofs.YtbajmaoegmbfgaaGreat
