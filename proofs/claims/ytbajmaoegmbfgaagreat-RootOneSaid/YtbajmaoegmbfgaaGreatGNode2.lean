/- Merged. -/
import Derived.Test.YtbajmaoegmbfgaaGreatGAr2
set_option linter.unusedSimpArgs false
set_option linter.unusedVariables false
namespace Go.Proofs.YtbajmaoegmbfgaaGreat
open Go.Proofs.Tryz (prog)
open Go.RowKit Go.Ct
section
theorem oz{a b:Nd}{x1 x2:List Int}{y1 y2:List Pr}{w:World}(ha:rV w a x1 y1)(hb:rV w b x2 y2) :
  Calls prog 113 #[a.v,b.v] w λ e w'=>∃r:Bool,e=.returned (.bool r)/\(r=true↔rW a b x1 x2 y1 y2)/\St w [] [] w':=by
 have e1:=ha.brN;have e2:=hb.brN;have e3:=ha.prN;have e4:=hb.prN
 refine enter Tryz.func113 Tryz.ntmps113 rfl rfl (SF.s0 w) ?_
 simp only[cE]
 refine J0 ?_;refine bN (λ x2=>?_);refine bN (λ x3=>?_);refine iW ?_;refine gY ?_;refine J3 ?_;refine mA ?_;refine aA ?_
 (refine eG 10 (λ g10=>?_) (λ g10=>?_)<;>refine Ka1 ?_)
 all_goals (refine Bg ?_;refine Tl ?_;refine aA ?_)
 all_goals (first|refine aI ?_|(refine eG 17 (λ g17=>?_) (λ g17=>?_)<;>refine Ka1 ?_))
 all_goals (refine Bg ?_;refine Tl ?_;refine aA ?_)
 all_goals (first|refine aI ?_|(refine eG 24 (λ g24=>?_) (λ g24=>?_)<;>refine Ka1 ?_))
 all_goals (refine Bg ?_;refine Tl ?_;refine aA ?_)
 all_goals (first|refine aI ?_|(refine eG 31 (λ g31=>?_) (λ g31=>?_)<;>refine Ka1 ?_))
 all_goals (refine Bg ?_;refine Tl ?_;refine aA ?_)
 all_goals (first|refine aI ?_|(refine eG 38 (λ g38=>?_) (λ g38=>?_)<;>refine Ka1 ?_))
 all_goals (refine Bg ?_;(first|refine aI ?_|(refine aF ?_;refine va ?_));refine Ka7 ?_)
 all_goals (first|refine aI ?_|(refine eG 45 (λ g45=>?_) (λ g45=>?_)<;>refine Ka1 ?_))
 all_goals (refine Bg ?_;refine Tl ?_;refine aG ?_)
 all_goals
 refine bE (λ c51=>?_) (λ c51=>?_)
 ·all_goals refine cZ ?_
  all_goals
   refine aN Tryz.results113 (λ w hw=>?_)
   exact⟨_,rfl,by simp_all[rW],hw.done⟩
 ·try exact nv c51
  all_goals (refine aS ?_;refine gY ?_;refine J3 ?_;refine aM (cV (hc:=λ w1 hw=>by simp only[e1,e2];exact ya (ha.br.fU hw.st) (hb.br.fU hw.st) ha.brS)) (λ x56=>?_);refine aA ?_)
  all_goals ((refine eG 57 (λ g57=>?_) (λ g57=>?_)<;>refine Ka1 ?_))
  all_goals (refine Bg ?_;(first|refine aI ?_|(refine aF ?_;refine aM (cV (hc:=λ w1 hw=>by simp only[e3,e4];exact aAH (ha.pr.fU hw.st) (hb.pr.fU hw.st) ha.prS)) (λ x62=>?_)));refine Ka7 ?_)
  all_goals (first|refine aI ?_|(refine eG 64 (λ g64=>?_) (λ g64=>?_)<;>refine Ka1 ?_))
  all_goals (refine Kc1 ?_)
  all_goals (first|refine aI ?_|(refine eG 71 (λ g71=>?_) (λ g71=>?_)<;>refine Ka1 ?_))
  all_goals (refine Kc1 ?_)
  all_goals (first|refine aI ?_|(refine eG 78 (λ g78=>?_) (λ g78=>?_)<;>refine Ka1 ?_))
  all_goals (refine Kc1 ?_)
  all_goals (first|refine aI ?_|(refine eG 85 (λ g85=>?_) (λ g85=>?_)<;>refine Ka1 ?_))
  all_goals (refine Kc1 ?_)
  all_goals (first|refine aI ?_|(refine eG 92 (λ g92=>?_) (λ g92=>?_)<;>refine Ka1 ?_))
  all_goals (refine Bg ?_;refine uU ?_;refine J1 ?_)
  all_goals
   refine aN Tryz.results113 (λ w hw=>?_)
   exact⟨_,rfl,by simp_all[rW],hw.done⟩
theorem y8{a b:Nd}{x1 x2:List Int}{y1 y2:List Pr}{w:World}(ha:rV w a x1 y1)(hb:rV w b x2 y2) :
  Calls prog 196 #[a.v,b.v] w λ e w'=>∃r:Bool,e=.returned (.bool r)/\(r=true↔rW a b x1 x2 y1 y2)/\St w [] [] w':=by
 have e1:=ha.brN;have e2:=hb.brN;have e3:=ha.prN;have e4:=hb.prN
 refine enter Tryz.func196 Tryz.ntmps196 rfl rfl (SF.s0 w) ?_
 simp only[cE]
 refine J0 ?_;refine bN (λ x2=>?_);refine bN (λ x3=>?_);refine iW ?_;refine W5 (by dsimp only[List.append]) ?_;refine J3 ?_;refine J3 ?_;refine kR ?_;refine aA ?_
 (refine eG 10 (λ g10=>?_) (λ g10=>?_)<;>refine Ka1 ?_)
 all_goals (refine Kc1 ?_)
 all_goals (first|refine aI ?_|(refine eG 17 (λ g17=>?_) (λ g17=>?_)<;>refine Ka1 ?_))
 all_goals (refine Kc1 ?_)
 all_goals (first|refine aI ?_|(refine eG 24 (λ g24=>?_) (λ g24=>?_)<;>refine Ka1 ?_))
 all_goals (refine Kc1 ?_)
 all_goals (first|refine aI ?_|(refine eG 31 (λ g31=>?_) (λ g31=>?_)<;>refine Ka1 ?_))
 all_goals (refine Bg ?_;(first|refine aI ?_|(refine aF ?_;refine aM (cV (hc:=λ w1 hw=>by simp only[e1,e2];exact od (ha.br.fU hw.st) (hb.br.fU hw.st) ha.brS)) (λ x36=>?_)));refine Ka7 ?_)
 all_goals (first|refine aI ?_|(refine eG 38 (λ g38=>?_) (λ g38=>?_)<;>refine Ka1 ?_))
 all_goals (refine Kc1 ?_)
 all_goals (first|refine aI ?_|(refine eG 45 (λ g45=>?_) (λ g45=>?_)<;>refine Ka1 ?_))
 all_goals (refine Bg ?_;(first|refine aI ?_|(refine aF ?_;refine vl ?_));refine Ka7 ?_)
 all_goals (first|refine aI ?_|(refine eG 52 (λ g52=>?_) (λ g52=>?_)<;>refine Ka1 ?_))
 all_goals (refine Kc1 ?_)
 all_goals (first|refine aI ?_|(refine eG 59 (λ g59=>?_) (λ g59=>?_)<;>refine Ka1 ?_))
 all_goals (refine Bg ?_;(first|refine aI ?_|(refine aF ?_;refine aM (cV (hc:=λ w1 hw=>by simp only[e3,e4];exact xh (ha.pr.fU hw.st) (hb.pr.fU hw.st) ha.prS)) (λ x64=>?_)));refine Ka7 ?_)
 all_goals (first|refine aI ?_|(refine eG 66 (λ g66=>?_) (λ g66=>?_)<;>refine Ka1 ?_))
 all_goals (refine Kc1 ?_)
 all_goals (first|refine aI ?_|(refine eG 73 (λ g73=>?_) (λ g73=>?_)<;>refine Ka1 ?_))
 all_goals (refine Kc1 ?_)
 all_goals (first|refine aI ?_|(refine eG 80 (λ g80=>?_) (λ g80=>?_)<;>refine Ka1 ?_))
 all_goals (refine Kc1 ?_)
 all_goals (first|refine aI ?_|(refine eG 87 (λ g87=>?_) (λ g87=>?_)<;>refine Ka1 ?_))
 all_goals (refine Kc1 ?_)
 all_goals (first|refine aI ?_|(refine eG 94 (λ g94=>?_) (λ g94=>?_)<;>refine Ka1 ?_))
 all_goals (refine Bg ?_;refine uU ?_;refine J1 ?_)
 all_goals
 refine aN Tryz.results196 (λ w hw=>?_)
 exact⟨_,rfl,by simp_all[rW],hw.done⟩
theorem Ro(a:Nd)(w:World):Calls prog 80 #[a.v] w λ e w'=>∃r:Bool,e=.returned (.bool r)/\(r=true↔(a.kind=3∨a.kind=5∨a.kind=6))/\St w [] [] w':=by
 refine enter Tryz.func80 Tryz.ntmps80 rfl rfl (SF.s0 w) ?_
 simp only[cE]
 refine J0 ?_;refine bN (λ x1=>?_);refine iW ?_;refine gY ?_;refine aG ?_;refine cY ?_;refine aR ?_;refine lO ?_
 refine bE (λ c5=>?_) (λ c5=>?_)
 ·refine aS ?_
  refine bE (λ c5=>?_) (λ c5=>?_)
  ·refine cZ ?_
   refine aN Tryz.results80 (λ w hw=>?_)
   exact⟨_,rfl,by simp_all,hw.done⟩
  ·refine Kb1 ?_
   refine aN Tryz.results80 (λ w hw=>?_)
   exact⟨_,rfl,by simp_all,hw.done⟩
 ·refine lO ?_
  refine bE (λ c5=>?_) (λ c5=>?_)
  ·refine aS ?_
   refine bE (λ c5=>?_) (λ c5=>?_)
   ·refine cZ ?_
    refine aN Tryz.results80 (λ w hw=>?_)
    exact⟨_,rfl,by simp_all,hw.done⟩
   ·refine Kb1 ?_
    refine aN Tryz.results80 (λ w hw=>?_)
    exact⟨_,rfl,by simp_all,hw.done⟩
  ·refine dJ ?_;refine Qq ?_
   refine bE (λ c5=>?_) (λ c5=>?_)
   ·refine cZ ?_
    refine aN Tryz.results80 (λ w hw=>?_)
    exact⟨_,rfl,by simp_all,hw.done⟩
   ·refine Kb1 ?_
    refine aN Tryz.results80 (λ w hw=>?_)
    exact⟨_,rfl,by simp_all,hw.done⟩
theorem xX(a:Nd)(w:World):Calls prog 41 #[a.v] w λ e w'=>∃r:Bool,e=.returned (.bool r)/\(r=true↔(a.kind=3∨a.kind=5∨a.kind=6))/\St w [] [] w':=by
 refine enter Tryz.func41 Tryz.ntmps41 rfl rfl (SF.s0 w) ?_
 simp only[cE]
 refine J0 ?_;refine bN (λ x1=>?_);refine J1 ?_;refine gY ?_;refine kR ?_;refine aA ?_
 (refine eG 6 (λ g6=>?_) (λ g6=>?_)<;>refine Ka1 ?_)
 all_goals (refine zt ?_;refine aA ?_)
 all_goals (first|refine aI ?_|(refine eG 11 (λ g11=>?_) (λ g11=>?_)<;>refine Ka1 ?_))
 all_goals (refine zt ?_;refine J1 ?_)
 all_goals
 refine aN Tryz.results41 (λ w hw=>?_)
 exact⟨_,rfl,by simp_all,hw.done⟩
end
section
theorem R6{xs:List Int}{a:Option Addr}{ca:Nat}{w:World}(ha:Cl w a (aH xs))(hx:xs.length<4611686018427387904) :
  Calls prog 199 #[.slice a xs.length ca] w λ e w'=>∃r:Bool,e=.returned (.bool r)/\(r=true↔Pos xs)/\St w [] [] w':=by
 refine enter Tryz.func199 Tryz.ntmps199 rfl rfl (SF.s1 ha) ?_
 simp only[cE]
 refine Kc4 ?_;refine dX ?_;refine H4 ?_;refine cY ?_
 refine gV [2,4,7,8,9,10,11,12,13] (λ k=>[(7,.int .i64 ((k:Nat):Int))]) (λ k=>k<=xs.length/\∀i,i<k->1<=xs.getD i 0) (λ k=>xs.length-k) (0) (⟨Nat.zero_le _,λ i hi=>absurd hi (Nat.not_lt_zero i)⟩) ?_ (λ k f hx=>?_)
 ·repeat (first|exact bQ _|refine bJ (by exact rfl) ?_)
 dsimp only[iB,List.map,List.cons_append,List.nil_append]
 refine J0 ?_;refine Bq ?_;refine aR ?_
 refine bE (λ c8=>?_) (λ c8=>?_)
 ·refine sA ?_;refine J0 ?_;refine Qw ?_;refine Ka4 ?_;refine Bq ?_
  refine bE (λ c12=>?_) (λ c12=>?_)
  ·refine cZ ?_
   refine aN Tryz.results199 (λ w hw=>?_)
   exact⟨_,rfl,by simp only[Bool.false_eq_true,false_iff];intro h;have:=h k (by omega);omega,hw.done⟩
  ·refine pM ?_;refine Yx ?_;refine H4 ?_
   refine fE (k+1) ?_ ?_ ?_
   ·omega
   ·repeat' (first|exact bQ _|refine bJ ?_ ?_)
    exact rfl
   ·exact⟨by omega,λ i hi=>by rcases Nat.lt_succ_iff_lt_or_eq.1 hi with h|rfl;exact hx.2 i h;omega⟩
 ·refine bR rfl ?_;refine cZ ?_
  refine aN Tryz.results199 (λ w hw=>?_)
  exact⟨_,rfl,by simp only[true_iff];intro i hi;exact hx.2 i (by omega),hw.done⟩
theorem On{l:List Pr}{a:Option Addr}{ca:Nat}{w:World}(ha:Cl w a (dE l))(hx:l.length<4611686018427387904) :
  Calls prog 200 #[.slice a l.length ca] w λ e w'=>∃r:Bool,e=.returned (.bool r)/\(r=true↔Ev l)/\St w [] [] w':=by
 refine enter Tryz.func200 Tryz.ntmps200 rfl rfl (SF.s1 ha) ?_
 simp only[cE]
 refine Kc4 ?_;refine dX ?_;refine H4 ?_;refine cY ?_
 refine gV [2,4,7,8,9,10,11,12,13,14,15] (λ k=>[(7,.int .i64 ((k:Nat):Int))]) (λ k=>k<=l.length/\∀i,i<k->(l.getD i (⟨#[]⟩,0)).1.size<=64) (λ k=>l.length-k) (0) (⟨Nat.zero_le _,λ i hi=>absurd hi (Nat.not_lt_zero i)⟩) ?_ (λ k f hx=>?_)
 ·repeat (first|exact bQ _|refine bJ (by exact rfl) ?_)
 dsimp only[iB,List.map,List.cons_append,List.nil_append]
 refine J0 ?_;refine Bq ?_;refine aR ?_
 refine bE (λ c8=>?_) (λ c8=>?_)
 ·refine sA ?_;refine J0 ?_;refine Qw ?_;refine aJ (λ x4=>?_);refine J5 ?_;refine gY ?_;refine mN ?_;refine Cp ?_;refine aG ?_
  refine bE (λ c14=>?_) (λ c14=>?_)
  ·refine cZ ?_
   refine aN Tryz.results200 (λ w hw=>?_)
   exact⟨_,rfl,by simp only[Bool.false_eq_true,false_iff];intro h;have:=h k (by omega);omega,hw.done⟩
  ·refine pM ?_;refine Yx ?_;refine H4 ?_
   refine fE (k+1) ?_ ?_ ?_
   ·omega
   ·repeat' (first|exact bQ _|refine bJ ?_ ?_)
    exact rfl
   ·exact⟨by omega,λ i hi=>by rcases Nat.lt_succ_iff_lt_or_eq.1 hi with h|rfl;exact hx.2 i h;omega⟩
 ·refine bR rfl ?_;refine cZ ?_
  refine aN Tryz.results200 (λ w hw=>?_)
  exact⟨_,rfl,by simp only[true_iff];intro i hi;exact hx.2 i (by omega),hw.done⟩
theorem Z0{l:List Pr}{a:Option Addr}{ca:Nat}{w:World}(ha:Cl w a (dE l))(hx:l.length<4611686018427387904) :
  Calls prog 171 #[.slice a l.length ca] w λ e w'=>∃r:Bool,e=.returned (.bool r)/\(r=true↔Ev l)/\St w [] [] w':=by
 refine enter Tryz.func171 Tryz.ntmps171 rfl rfl (SF.s1 ha) ?_
 simp only[cE]
 refine Er ?_;refine Gp ?_
 refine gV [2,3,4,5,6,7,8,9,10,11,12,13,14,15,16] (λ k=>[(3,.int .i64 ((k:Nat):Int))]) (λ k=>k<=l.length/\∀i,i<k->(l.getD i (⟨#[]⟩,0)).1.size<=64) (λ k=>l.length-k) (0) (⟨Nat.zero_le _,λ i hi=>absurd hi (Nat.not_lt_zero i)⟩) ?_ (λ k f hx=>?_)
 ·repeat (first|exact bQ _|refine bJ (by exact rfl) ?_)
 dsimp only[iB,List.map,List.cons_append,List.nil_append]
 refine Da ?_;refine dX ?_;refine Bq ?_
 refine bE (λ c7=>?_) (λ c7=>?_)
 ·refine sA ?_;refine jM ?_;refine fZ ?_;refine J3 ?_;refine mN ?_;refine Cp ?_;refine aG ?_
  refine bE (λ c16=>?_) (λ c16=>?_)
  ·refine cZ ?_
   refine aN Tryz.results171 (λ w hw=>?_)
   exact⟨_,rfl,by simp only[Bool.false_eq_true,false_iff];intro h;have:=h k (by omega);omega,hw.done⟩
  ·refine Kc7 ?_
   refine fE (k+1) ?_ ?_ ?_
   ·omega
   ·repeat' (first|exact bQ _|refine bJ ?_ ?_)
    exact rfl
   ·exact⟨by omega,λ i hi=>by rcases Nat.lt_succ_iff_lt_or_eq.1 hi with h|rfl;exact hx.2 i h;omega⟩
 ·refine bR rfl ?_;refine cZ ?_
  refine aN Tryz.results171 (λ w hw=>?_)
  exact⟨_,rfl,by simp only[true_iff];intro i hi;exact hx.2 i (by omega),hw.done⟩
theorem Wr{l:List Pr}{a:Option Addr}{ca:Nat}{w:World}(ha:Cl w a (dE l))(hx:l.length<4611686018427387904) :
  Calls prog 193 #[.slice a l.length ca] w λ e w'=>∃r:Bool,e=.returned (.bool r)/\(r=true↔vu l)/\St w [] [] w':=by
 refine enter Tryz.func193 Tryz.ntmps193 rfl rfl (SF.s1 ha) ?_
 simp only[cE]
 refine Er ?_;refine Gp ?_
 refine gV [2,3,4,5,6,7,8,9,10,11,12,13,14,15,16,17,18,19,20,21] (λ k=>[(3,.int .i64 ((k:Nat):Int))]) (λ k=>1<=k/\k<=l.length+1/\∀i,1<=i->i<k->dM (l.getD (i-1) (⟨#[]⟩,0)).1 (l.getD i (⟨#[]⟩,0)).1=true) (λ k=>l.length-k) (1) (⟨Nat.le_refl _,by omega,λ i h1 hi=>by omega⟩) ?_ (λ k f hx=>?_)
 ·repeat (first|exact bQ _|refine bJ (by exact rfl) ?_)
 dsimp only[iB,List.map,List.cons_append,List.nil_append]
 refine Da ?_;refine dX ?_;refine Bq ?_
 refine bE (λ c7=>?_) (λ c7=>?_)
 ·refine sA ?_;refine aR ?_;refine gM [0,1,2,3,4,5,6,7,8,9,10,11] ?_;refine hU ?_;refine Pm ?_;refine iT ?_;refine pG ?_;refine hU ?_;refine iT ?_;refine pG ?_;refine ml ?_;refine eO ?_
  refine bE (λ c21=>?_) (λ c21=>?_)
  ·refine cZ ?_
   refine aN Tryz.results193 (λ w hw=>?_)
   exact⟨_,rfl,by simp only[Bool.false_eq_true,false_iff];intro h;have:=h k (by omega) (by omega);rw[c21] at this;exact Bool.noConfusion this,hw.done⟩
  ·refine Kc7 ?_
   refine fE (k+1) ?_ ?_ ?_
   ·omega
   ·repeat' (first|exact bQ _|refine bJ ?_ ?_)
    exact rfl
   ·exact⟨by omega,by omega,λ i h1 hi=>by rcases Nat.lt_succ_iff_lt_or_eq.1 hi with h|rfl;exact hx.2.2 i h1 h;exact c21⟩
 ·refine bR rfl ?_;refine cZ ?_
  refine aN Tryz.results193 (λ w hw=>?_)
  exact⟨_,rfl,by simp only[true_iff];intro i h1 hi;exact hx.2.2 i h1 (by omega),hw.done⟩
theorem mH{l:List Pr}{a:Option Addr}{ca:Nat}{w:World}(ha:Cl w a (dE l))(hx:l.length<4611686018427387904) :
  Calls prog 109 #[.slice a l.length ca] w λ e w'=>∃r:Bool,e=.returned (.bool r)/\(r=true↔vu l)/\St w [] [] w':=by
 refine enter Tryz.func109 Tryz.ntmps109 rfl rfl (SF.s1 ha) ?_
 simp only[cE]
 refine Er ?_;refine Gp ?_
 refine gV [2,3,4,5,6,7,8,9,10,11,12,13,14,15,16,17,18,19,20,21] (λ k=>[(3,.int .i64 ((k:Nat):Int))]) (λ k=>1<=k/\k<=l.length+1/\∀i,1<=i->i<k->dM (l.getD (i-1) (⟨#[]⟩,0)).1 (l.getD i (⟨#[]⟩,0)).1=true) (λ k=>l.length-k) (1) (⟨Nat.le_refl _,by omega,λ i h1 hi=>by omega⟩) ?_ (λ k f hx=>?_)
 ·repeat (first|exact bQ _|refine bJ (by exact rfl) ?_)
 dsimp only[iB,List.map,List.cons_append,List.nil_append]
 refine Da ?_;refine dX ?_;refine Bq ?_
 refine bE (λ c7=>?_) (λ c7=>?_)
 ·refine sA ?_;refine aR ?_;refine gM [0,1,2,3,4,5,6,7,8,9,10,11] ?_;refine hU ?_;refine iT ?_;refine pG ?_;refine hU ?_;refine Pm ?_;refine iT ?_;refine pG ?_;refine gj ?_;refine eO ?_
  refine bE (λ c21=>?_) (λ c21=>?_)
  ·refine cZ ?_
   refine aN Tryz.results109 (λ w hw=>?_)
   exact⟨_,rfl,by simp only[Bool.false_eq_true,false_iff];intro h;have:=h k (by omega) (by omega);rw[aAT c21] at this;exact Bool.noConfusion this,hw.done⟩
  ·refine Kc7 ?_
   refine fE (k+1) ?_ ?_ ?_
   ·omega
   ·repeat' (first|exact bQ _|refine bJ ?_ ?_)
    exact rfl
   ·exact⟨by omega,by omega,λ i h1 hi=>by rcases Nat.lt_succ_iff_lt_or_eq.1 hi with h|rfl;exact hx.2.2 i h1 h;exact aBz c21⟩
 ·refine bR rfl ?_;refine cZ ?_
  refine aN Tryz.results109 (λ w hw=>?_)
  exact⟨_,rfl,by simp only[true_iff];intro i h1 hi;exact hx.2.2 i h1 (by omega),hw.done⟩
end
section
theorem a8(o:Int)(w:World):Calls prog 202 #[.int .i64 o] w λ e w'=>e=.returned ({Nd.zero with kind:=7,bA:=o}:Nd).v/\St w [] [] w':=by
 refine enter Tryz.func202 Tryz.ntmps202 rfl rfl (SF.s0 w) ?_
 simp only[cE]
 refine J0 ?_;refine aJ (λ x2=>?_);refine Kd0 ?_;refine vG ?_
 refine bB Tryz.results202 (λ w hw=>?_)
 exact⟨rfl,hw.done⟩
theorem dk(o x n:Int)(w:World):Calls prog 136 #[.int .i64 o,.int .i64 x,.int .i64 n] w λ e w'=>e=.returned ({Nd.zero with kind:=8,bA:=o,exp:=x,new:=n}:Nd).v/\St w [] [] w':=by
 refine enter Tryz.func136 Tryz.ntmps136 rfl rfl (SF.s0 w) ?_
 simp only[cE]
 refine J0 ?_;refine aJ (λ x6=>?_);refine aG ?_;refine Kb6 ?_;refine vG ?_
 refine bB Tryz.results136 (λ w hw=>?_)
 exact⟨rfl,hw.done⟩
theorem SF.frz{w w':World}{F:Fr}{o:Ow}(h:SF w [] [] [] F [o] w'):SF w [] [] [] ((o.p,o.cs)::F) [] w':=h.freeze .head (by simp)
theorem SF.aCy{w w':World}{F:Fr}{o o2:Ow}(h:SF w [] [] [] F [o,o2] w'):SF w [] [] [] ((o2.p,o2.cs)::(o.p,o.cs)::F) [] w':=(h.freeze .head (by simp)).freeze .head (by simp)
theorem Qy:xV prog 164 24=true:=by kernel_rfl
theorem Wi:xV prog 37 8=true:=by kernel_rfl
theorem Wn{l:List Pr}{a:Option Addr}{c:Nat}{w:World}(ha:Cl w a (dE l))(hl:l.length<=11728124029610):Calls prog 124 #[.slice a l.length c] w λ e w' =>
  ∃p:Option Addr,e=.returned (.slice p l.length l.length)/\(l=[]->p=none)/\SF w [] [] [] [] [⟨p,dE l,l.length,164,2⟩] w':=by
 refine enter Tryz.func124 Tryz.ntmps124 rfl rfl (SF.s1 ha) ?_
 simp only[cE]
 refine Kc4 ?_;refine dX ?_;refine uM ?_
 refine bE (λ c6=>?_) (λ c6=>?_)
 ·have hl0:l=[]:=List.eq_nil_of_length_eq_zero (by omega)
  subst hl0
  refine cZ ?_
  refine aN Tryz.results124 (λ w hw=>?_)
  exact⟨none,rfl,λ _=>rfl,(hw.lN 164 2).aX⟩
 ·refine aS ?_;refine J2 ?_;refine dX ?_;refine aM (Zg rf rf ep1 Qy om om) (λ x9=>?_);refine zM ?_;refine au (λ x12=>?_);refine aG ?_;refine Ka5 ?_
  refine aN Tryz.results124 (λ w hw=>?_)
  exact⟨some ⟨x9,0,none⟩,rfl,λ h=>absurd (congrArg List.length h) (by simpa using c6),by simpa using hw.aX (H':=[]) (F':=[])⟩
theorem Xu{l:List Int}{a:Option Addr}{c:Nat}{w:World}(ha:Cl w a (aH l))(hl:l.length<=35184372088832):Calls prog 123 #[.slice a l.length c] w λ e w' =>
  ∃p:Option Addr,e=.returned (.slice p l.length l.length)/\(l=[]->p=none)/\SF w [] [] [] [] [⟨p,aH l,l.length,37,1⟩] w':=by
 refine enter Tryz.func123 Tryz.ntmps123 rfl rfl (SF.s1 ha) ?_
 simp only[cE]
 refine Kc4 ?_;refine dX ?_;refine uM ?_
 refine bE (λ c6=>?_) (λ c6=>?_)
 ·have hl0:l=[]:=List.eq_nil_of_length_eq_zero (by omega)
  subst hl0
  refine cZ ?_
  refine aN Tryz.results123 (λ w hw=>?_)
  exact⟨none,rfl,λ _=>rfl,(hw.lN 37 1).aX⟩
 ·refine aS ?_;refine J2 ?_;refine dX ?_;refine aM (kj rf rf m9 Wi om om) (λ x9=>?_);refine zM ?_;refine au (λ x12=>?_);refine aG ?_;refine Ka5 ?_
  refine aN Tryz.results123 (λ w hw=>?_)
  exact⟨some ⟨x9,0,none⟩,rfl,λ h=>absurd (congrArg List.length h) (by simpa using c6),by simpa using hw.aX (H':=[]) (F':=[])⟩
theorem Va{n:Nd}{xs:List Int}{ys:List Pr}{w:World}(hr:rV w n xs ys)(h1:xs.length<=35184372088832)(h2:ys.length<=11728124029610):Calls prog 78 #[n.v] w λ e w' =>
  ∃p:Option Addr×Option Addr,e=.returned ({n with brA:=p.1,brC:=xs.length,prA:=p.2,dE:=ys.length}:Nd).v/\((xs=[]->p.1=none)/\(ys=[]->p.2=none))/\SF w [] [] [] [] [⟨p.2,dE ys,ys.length,164,2⟩,⟨p.1,aH xs,xs.length,37,1⟩] w':=by
 have e1:=hr.brN;have e2:=hr.prN
 refine enter Tryz.func78 Tryz.ntmps78 rfl rfl (SF.s2 hr.br hr.pr) ?_
 simp only[cE]
 simp only[Nd.v,Nd.cells]
 refine J0 ?_;refine bN (λ x1=>?_);refine aJ (λ x2=>?_);refine aG ?_;refine gY ?_;refine aC (Yr (Hc:=λ _=>[]) (Fc:=λ _=>[]) (hc:=λ w1 hw=>by rw[e1];exact Xu (hw.cl fin) h1)) (λ x5 h5=>?_);refine wV ?_;refine gY ?_;refine aC (Yr (Hc:=λ _=>[]) (Fc:=λ _=>[]) (hc:=λ w1 hw=>by rw[e2];exact Wn (hw.cl fin) h2)) (λ x9 h9=>?_);refine wV ?_;refine oX ?_;refine J5 ?_
 refine bB Tryz.results78 (λ w hw=>?_)
 exact⟨(x5,x9),by rw[e1,e2];rfl,⟨h5,h9⟩,hw.aX⟩
theorem Vs{n:Nd}{xs:List Int}{ys:List Pr}{w:World}(hr:rV w n xs ys)(h1:xs.length<=35184372088832)(h2:ys.length<=11728124029610):Calls prog 78 #[n.v] w λ e w' =>
  ∃p:Option Addr×Option Addr,e=.returned ({n with brA:=p.1,brC:=xs.length,prA:=p.2,dE:=ys.length}:Nd).v/\((xs=[]->p.1=none)/\(ys=[]->p.2=none))/\SF w [] [] [] [(p.1,aH xs),(p.2,dE ys)] [] w':=(Va hr h1 h2).mono λ _ _ ⟨p,he,hp,hs⟩=>⟨p,he,hp,SF.aCy hs⟩
end
end Go.Proofs.YtbajmaoegmbfgaaGreat
namespace Go.Ct
section
def fA:aU:=⟨{Nd.zero with kind:=1},[],[]⟩
def aD(L:List aU)(r:Int):aU:=if 1<=r/\r<=L.length then L.getD (r-1).toNat aU.zero else aU.zero
theorem pY{L:List aU}{r:Int}(h:¬(1<=r/\r<=L.length)):aD L r=aU.zero:=if_neg h
theorem Ap{L:List aU}{k:Nat}(h:k<L.length):aD L ((k+1:Nat):Int)=L.getD k aU.zero:=by
 unfold aD
 rw[if_pos (by omega),show(((k+1:Nat):Int)-1).toNat=k by omega]
def dH(L:List aU):List aU:=fA::fA::L
theorem nX(L:List aU):(dH L).length=L.length+2:=rfl
structure AX where
 pn:Option Addr
 cn:Nat
 pc:Option Addr
 cc:Nat
 b1:Option Addr
 c1:Nat
 b2:Option Addr
 c2:Nat
def eU(k:Int)(cs:List Int)(init:Int):List Int:=if k=2∨k=3∨k=5∨k=6∨k=8 then cs++[init] else cs
def kZ(n:Nd)(xs:List Int)(ys:List Pr)(c:Nat)(x:AX):aU :=
 aU.mk {n with main:=if n.kind=2 then((c+1:Nat):Int) else 0,prev:=if n.kind=3∨n.kind=5∨n.kind=6 then((c+1:Nat):Int) else 0,status:=if n.kind=8 then((c+1:Nat):Int) else 0,brA:=x.b1,brN:=xs.length,brC:=x.c1,prA:=x.b2,prN:=ys.length,dE:=x.c2} xs ys
theorem kA{k:Int}{cs:List Int}{init:Int}:cs.length<=(eU k cs init).length/\(eU k cs init).length<=cs.length+1:=by unfold eU;split<;>simp
theorem Lv{n:Nd}{xs:List Int}{ys:List Pr}{c:Nat}{x:AX}(h1:xs.length<=35184372088832)(h2:ys.length<=11728124029610):(kZ n xs ys c x).Fit:=⟨rfl,rfl,h1,h2⟩
def aU.at_(v:aU)(p q:Option Addr):aU:=⟨{v.nd with brA:=p,brC:=v.xs.length,prA:=q,dE:=v.ys.length},v.xs,v.ys⟩
theorem aU.aAh{v:aU}(h:v.Fit)(p q:Option Addr):(v.at_ p q).Fit:=⟨h.brN,h.prN,h.brS,h.prS⟩
end
end Go.Ct
namespace Go.Proofs.YtbajmaoegmbfgaaGreat
open Go.RowKit Go.Ct
section
variable{w:World}{D:List Nat}{b:Nat}{L:List aU}{cs:List Int}{gen acc:Int}{pn pc:Option Addr}{cn cc:Nat}{A:Fr}
theorem ll(w:World):Calls Tryz.prog 64 #[] w λ e w'=>∃q:Nat×Option Addr,e=.returned (.pointer (some ⟨q.1,0,none⟩))/\True /\
  SF w [] [(q.1,mO [fA,fA] [] 0 0 q.2 2 none 0)] [] [] (mW [fA,fA] [] q.2 2 none 0) w':=by
 refine enter Tryz.func64 Tryz.ntmps64 rfl rfl (SF.s0 w) ?_
 simp only[cE]
 refine cZ ?_;refine J0 ?_;refine bK ?_;refine bK ?_;refine aM (Rx (c:=2) (sz:=14) rfl (λ _=>cL sC Ii rfl rfl rfl rfl (by simp only[Dk,nD,List.cons_append,List.nil_append];exact rfl))) (λ x3=>?_);refine bK ?_;refine bK ?_;refine bN (λ x6=>?_);refine J1 ?_
 refine aN Tryz.results64 (λ w hw=>?_)
 exact⟨(x6,some ⟨x3,0,none⟩),rfl,trivial,(SF.Y9 (hw.lN 37 1)).aX⟩
theorem gp(hs:SF w D [(b,mO L cs gen acc pn cn pc cc)] A [] (mW L cs pn cn pc cc) w)(r:Int)(hr:r<1):Calls Tryz.prog 25 #[.pointer (some ⟨b,0,none⟩),.int .i64 r] w λ e w'=>∃q:Unit,e=.returned (aD L r).nd.v/\True /\
  SF w D [(b,mO L cs gen acc pn cn pc cc)] [] [] (mW L cs pn cn pc cc) w':=by
 refine enter Tryz.func25 Tryz.ntmps25 rfl rfl (yM hs) ?_
 simp only[cE]
 refine J0 ?_;refine aJ (λ x4=>?_);refine aG ?_;refine Kb3 ?_
 (refine eG 7 (λ g7=>?_) (λ g7=>?_)<;>(try (exfalso;omega))<;>(refine aI ?_))
 refine z8 ?_;refine Rw ?_;refine Ka8 ?_
 refine bE (λ c16=>?_) (λ c16=>?_)
 ·try (exfalso;omega)
  refine Kb8 ?_
  refine bB Tryz.results25 (λ w hw=>?_)
  exact⟨(),by rw[pY (by omega)];rfl,trivial,hw.aX⟩
 ·exact nv c16
theorem bk(hs:SF w D [(b,mO L cs gen acc pn cn pc cc)] A [] (mW L cs pn cn pc cc) w){k:Nat}(hk:(k:Int)<9223372036854775807)(hl:L.length<=274877906944):Calls Tryz.prog 25 #[.pointer (some ⟨b,0,none⟩),.int .i64 ((k+1:Nat):Int)] w λ e w'=>∃q:Unit,e=.returned (aD L ((k+1:Nat):Int)).nd.v/\True /\
  SF w D [(b,mO L cs gen acc pn cn pc cc)] [] [] (mW L cs pn cn pc cc) w':=by
 refine enter Tryz.func25 Tryz.ntmps25 rfl rfl (yM hs) ?_
 simp only[cE]
 refine J0 ?_;refine aJ (λ x4=>?_);refine aG ?_;refine Kb3 ?_
 (refine Ka3 ?_)
 refine z8 ?_;refine Rw ?_;refine Ka8 ?_
 refine bE (λ c16=>?_) (λ c16=>?_)
 ·try (exfalso;omega)
  refine Kb8 ?_
  refine bB Tryz.results25 (λ w hw=>?_)
  (exact⟨(),by rw[pY (by omega)];rfl,trivial,hw.aX⟩)
 ·try (exfalso;omega)
  refine aS ?_;refine Ip ?_;refine Kc2 ?_;refine sB ?_;refine Qw ?_;refine J5 ?_
  refine bB Tryz.results25 (λ w hw=>?_)
  (exact⟨(),by rw[Ap (by omega)];rfl,trivial,hw.aX⟩)
theorem q9(hs:SF w D [(b,mO L cs gen acc pn cn pc cc)] A [] (mW L cs pn cn pc cc) w)(r:Int)(hr:r<=9223372036854775807)(hl:L.length<=274877906944):Calls Tryz.prog 25 #[.pointer (some ⟨b,0,none⟩),.int .i64 r] w λ e w'=>∃q:Unit,e=.returned (aD L r).nd.v/\True /\
  SF w D [(b,mO L cs gen acc pn cn pc cc)] [] [] (mW L cs pn cn pc cc) w':=by
 rcases Int.lt_or_le r 1 with h|h
 ·exact gp hs r h
 ·obtain⟨k,rfl⟩:∃k:Nat,r=((k+1:Nat):Int):=⟨(r-1).toNat,by omega⟩
  exact bk hs (by omega) hl
end
end Go.Proofs.YtbajmaoegmbfgaaGreat
