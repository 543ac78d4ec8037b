/- Merged. -/
import Derived.Test.YtbajmaoegmbfgaaGreatGAr2
set_option linter.unusedSimpArgs false
set_option linter.unusedVariables false
namespace Go.Proofs.YtbajmaoegmbfgaaGreat
open Go.Proofs.Tryz (prog)
open Go.RowKit Go.Ct
section
theorem oo{a b:Nd}{x1 x2:List Int}{y1 y2:List Pr}{w:World}(ha:rY w a x1 y1)(hb:rY w b x2 y2) :
  Calls prog 113 #[a.v,b.v] w λ e w'=>∃r:Bool,e=.returned (.bool r)/\(r=true↔rQ a b x1 x2 y1 y2)/\St w [] [] w':=by
 have e1:=ha.brN;have e2:=hb.brN;have e3:=ha.prN;have e4:=hb.prN
 refine enter Tryz.func113 Tryz.ntmps113 rfl rfl (SF.s0 w) ?_
 simp only[cC]
 refine J0 ?_;refine bM (λ x2=>?_);refine bM (λ x3=>?_);refine jF ?_;refine iI ?_;refine J3 ?_;refine nD ?_;refine aA ?_
 (refine eJ 10 (λ g10=>?_) (λ g10=>?_)<;>refine Ka1 ?_)
 all_goals (refine B5 ?_;refine Rx ?_;refine aA ?_)
 all_goals (first|refine aI ?_|(refine eJ 17 (λ g17=>?_) (λ g17=>?_)<;>refine Ka1 ?_))
 all_goals (refine B5 ?_;refine Rx ?_;refine aA ?_)
 all_goals (first|refine aI ?_|(refine eJ 24 (λ g24=>?_) (λ g24=>?_)<;>refine Ka1 ?_))
 all_goals (refine B5 ?_;refine Rx ?_;refine aA ?_)
 all_goals (first|refine aI ?_|(refine eJ 31 (λ g31=>?_) (λ g31=>?_)<;>refine Ka1 ?_))
 all_goals (refine B5 ?_;refine Rx ?_;refine aA ?_)
 all_goals (first|refine aI ?_|(refine eJ 38 (λ g38=>?_) (λ g38=>?_)<;>refine Ka1 ?_))
 all_goals (refine B5 ?_;(first|refine aI ?_|(refine aE ?_;refine vh ?_));refine Kb0 ?_)
 all_goals (first|refine aI ?_|(refine eJ 45 (λ g45=>?_) (λ g45=>?_)<;>refine Ka1 ?_))
 all_goals (refine B5 ?_;refine Rx ?_;refine aH ?_)
 all_goals
 refine bC (λ c51=>?_) (λ c51=>?_)
 ·all_goals refine cX ?_
  all_goals
   refine aR Tryz.results113 (λ w hw=>?_)
   exact⟨_,rfl,by simp_all[rQ],hw.done⟩
 ·try exact nv c51
  all_goals (refine aZ ?_;refine iI ?_;refine J3 ?_;refine aQ (cV (hc:=λ w1 hw=>by simp only[e1,e2];exact xc (ha.br.gG hw.st) (hb.br.gG hw.st) ha.brS)) (λ x56=>?_);refine aA ?_)
  all_goals ((refine eJ 57 (λ g57=>?_) (λ g57=>?_)<;>refine Ka1 ?_))
  all_goals (refine B5 ?_;(first|refine aI ?_|(refine aE ?_;refine aQ (cV (hc:=λ w1 hw=>by simp only[e3,e4];exact aB3 (ha.pr.gG hw.st) (hb.pr.gG hw.st) ha.prS)) (λ x62=>?_)));refine Kb0 ?_)
  all_goals (first|refine aI ?_|(refine eJ 64 (λ g64=>?_) (λ g64=>?_)<;>refine Ka1 ?_))
  all_goals (refine Kc4 ?_)
  all_goals (first|refine aI ?_|(refine eJ 71 (λ g71=>?_) (λ g71=>?_)<;>refine Ka1 ?_))
  all_goals (refine Kc4 ?_)
  all_goals (first|refine aI ?_|(refine eJ 78 (λ g78=>?_) (λ g78=>?_)<;>refine Ka1 ?_))
  all_goals (refine Kc4 ?_)
  all_goals (first|refine aI ?_|(refine eJ 85 (λ g85=>?_) (λ g85=>?_)<;>refine Ka1 ?_))
  all_goals (refine Kc4 ?_)
  all_goals (first|refine aI ?_|(refine eJ 92 (λ g92=>?_) (λ g92=>?_)<;>refine Ka1 ?_))
  all_goals (refine B5 ?_;refine wX ?_;refine J1 ?_)
  all_goals
   refine aR Tryz.results113 (λ w hw=>?_)
   exact⟨_,rfl,by simp_all[rQ],hw.done⟩
theorem xy{a b:Nd}{x1 x2:List Int}{y1 y2:List Pr}{w:World}(ha:rY w a x1 y1)(hb:rY w b x2 y2) :
  Calls prog 196 #[a.v,b.v] w λ e w'=>∃r:Bool,e=.returned (.bool r)/\(r=true↔rQ a b x1 x2 y1 y2)/\St w [] [] w':=by
 have e1:=ha.brN;have e2:=hb.brN;have e3:=ha.prN;have e4:=hb.prN
 refine enter Tryz.func196 Tryz.ntmps196 rfl rfl (SF.s0 w) ?_
 simp only[cC]
 refine J0 ?_;refine bM (λ x2=>?_);refine bM (λ x3=>?_);refine jF ?_;refine Zb (by dsimp only[List.append]) ?_;refine J3 ?_;refine J3 ?_;refine mF ?_;refine aA ?_
 (refine eJ 10 (λ g10=>?_) (λ g10=>?_)<;>refine Ka1 ?_)
 all_goals (refine Kc4 ?_)
 all_goals (first|refine aI ?_|(refine eJ 17 (λ g17=>?_) (λ g17=>?_)<;>refine Ka1 ?_))
 all_goals (refine Kc4 ?_)
 all_goals (first|refine aI ?_|(refine eJ 24 (λ g24=>?_) (λ g24=>?_)<;>refine Ka1 ?_))
 all_goals (refine Kc4 ?_)
 all_goals (first|refine aI ?_|(refine eJ 31 (λ g31=>?_) (λ g31=>?_)<;>refine Ka1 ?_))
 all_goals (refine B5 ?_;(first|refine aI ?_|(refine aE ?_;refine aQ (cV (hc:=λ w1 hw=>by simp only[e1,e2];exact ql (ha.br.gG hw.st) (hb.br.gG hw.st) ha.brS)) (λ x36=>?_)));refine Kb0 ?_)
 all_goals (first|refine aI ?_|(refine eJ 38 (λ g38=>?_) (λ g38=>?_)<;>refine Ka1 ?_))
 all_goals (refine Kc4 ?_)
 all_goals (first|refine aI ?_|(refine eJ 45 (λ g45=>?_) (λ g45=>?_)<;>refine Ka1 ?_))
 all_goals (refine B5 ?_;(first|refine aI ?_|(refine aE ?_;refine w5 ?_));refine Kb0 ?_)
 all_goals (first|refine aI ?_|(refine eJ 52 (λ g52=>?_) (λ g52=>?_)<;>refine Ka1 ?_))
 all_goals (refine Kc4 ?_)
 all_goals (first|refine aI ?_|(refine eJ 59 (λ g59=>?_) (λ g59=>?_)<;>refine Ka1 ?_))
 all_goals (refine B5 ?_;(first|refine aI ?_|(refine aE ?_;refine aQ (cV (hc:=λ w1 hw=>by simp only[e3,e4];exact aAu (ha.pr.gG hw.st) (hb.pr.gG hw.st) ha.prS)) (λ x64=>?_)));refine Kb0 ?_)
 all_goals (first|refine aI ?_|(refine eJ 66 (λ g66=>?_) (λ g66=>?_)<;>refine Ka1 ?_))
 all_goals (refine Kc4 ?_)
 all_goals (first|refine aI ?_|(refine eJ 73 (λ g73=>?_) (λ g73=>?_)<;>refine Ka1 ?_))
 all_goals (refine Kc4 ?_)
 all_goals (first|refine aI ?_|(refine eJ 80 (λ g80=>?_) (λ g80=>?_)<;>refine Ka1 ?_))
 all_goals (refine Kc4 ?_)
 all_goals (first|refine aI ?_|(refine eJ 87 (λ g87=>?_) (λ g87=>?_)<;>refine Ka1 ?_))
 all_goals (refine Kc4 ?_)
 all_goals (first|refine aI ?_|(refine eJ 94 (λ g94=>?_) (λ g94=>?_)<;>refine Ka1 ?_))
 all_goals (refine B5 ?_;refine wX ?_;refine J1 ?_)
 all_goals
 refine aR Tryz.results196 (λ w hw=>?_)
 exact⟨_,rfl,by simp_all[rQ],hw.done⟩
theorem T8(a:Nd)(w:World):Calls prog 80 #[a.v] w λ e w'=>∃r:Bool,e=.returned (.bool r)/\(r=true↔(a.kind=3∨a.kind=5∨a.kind=6))/\St w [] [] w':=by
 refine enter Tryz.func80 Tryz.ntmps80 rfl rfl (SF.s0 w) ?_
 simp only[cC]
 refine J0 ?_;refine bM (λ x1=>?_);refine jF ?_;refine iI ?_;refine aH ?_;refine cS ?_;refine aV ?_;refine lQ ?_
 refine bC (λ c5=>?_) (λ c5=>?_)
 ·refine aZ ?_
  refine bC (λ c5=>?_) (λ c5=>?_)
  ·refine cX ?_
   refine aR Tryz.results80 (λ w hw=>?_)
   exact⟨_,rfl,by simp_all,hw.done⟩
  ·refine Ka7 ?_
   refine aR Tryz.results80 (λ w hw=>?_)
   exact⟨_,rfl,by simp_all,hw.done⟩
 ·refine lQ ?_
  refine bC (λ c5=>?_) (λ c5=>?_)
  ·refine aZ ?_
   refine bC (λ c5=>?_) (λ c5=>?_)
   ·refine cX ?_
    refine aR Tryz.results80 (λ w hw=>?_)
    exact⟨_,rfl,by simp_all,hw.done⟩
   ·refine Ka7 ?_
    refine aR Tryz.results80 (λ w hw=>?_)
    exact⟨_,rfl,by simp_all,hw.done⟩
  ·refine dM ?_;refine Ro ?_
   refine bC (λ c5=>?_) (λ c5=>?_)
   ·refine cX ?_
    refine aR Tryz.results80 (λ w hw=>?_)
    exact⟨_,rfl,by simp_all,hw.done⟩
   ·refine Ka7 ?_
    refine aR Tryz.results80 (λ w hw=>?_)
    exact⟨_,rfl,by simp_all,hw.done⟩
theorem xK(a:Nd)(w:World):Calls prog 41 #[a.v] w λ e w'=>∃r:Bool,e=.returned (.bool r)/\(r=true↔(a.kind=3∨a.kind=5∨a.kind=6))/\St w [] [] w':=by
 refine enter Tryz.func41 Tryz.ntmps41 rfl rfl (SF.s0 w) ?_
 simp only[cC]
 refine J0 ?_;refine bM (λ x1=>?_);refine J1 ?_;refine iI ?_;refine mF ?_;refine aA ?_
 (refine eJ 6 (λ g6=>?_) (λ g6=>?_)<;>refine Ka1 ?_)
 all_goals (refine J78 ?_;refine aA ?_)
 all_goals (first|refine aI ?_|(refine eJ 11 (λ g11=>?_) (λ g11=>?_)<;>refine Ka1 ?_))
 all_goals (refine J78 ?_;refine J1 ?_)
 all_goals
 refine aR Tryz.results41 (λ w hw=>?_)
 exact⟨_,rfl,by simp_all,hw.done⟩
end
section
theorem Up{xs:List Int}{a:Option Addr}{ca:Nat}{w:World}(ha:Cl w a (aG xs))(hx:xs.length<4611686018427387904) :
  Calls prog 199 #[.slice a xs.length ca] w λ e w'=>∃r:Bool,e=.returned (.bool r)/\(r=true↔Pos xs)/\St w [] [] w':=by
 refine enter Tryz.func199 Tryz.ntmps199 rfl rfl (SF.s1 ha) ?_
 simp only[cC]
 refine cX ?_;refine kT ?_;refine dR ?_;refine Ip ?_;refine cS ?_
 refine iD [2,4,7,8,9,10,11,12,13] (λ k=>[(7,.int .i64 ((k:Nat):Int))]) (λ k=>k<=xs.length/\∀i,i<k->1<=xs.getD i 0) (λ k=>xs.length-k) (0) (⟨Nat.zero_le _,λ i hi=>absurd hi (Nat.not_lt_zero i)⟩) ?_ (λ k f hx=>?_)
 ·repeat (first|exact bI _|refine bD (by exact rfl) ?_)
 dsimp only[hY,List.map,List.cons_append,List.nil_append]
 refine J0 ?_;refine Aj ?_;refine aV ?_
 refine bC (λ c8=>?_) (λ c8=>?_)
 ·refine rX ?_;refine J0 ?_;refine Rp ?_;refine Ka5 ?_;refine Aj ?_
  refine bC (λ c12=>?_) (λ c12=>?_)
  ·refine cX ?_
   refine aR Tryz.results199 (λ w hw=>?_)
   exact⟨_,rfl,by simp only[Bool.false_eq_true,false_iff];intro h;have:=h k (by omega);omega,hw.done⟩
  ·refine pI ?_;refine a8 ?_;refine Ip ?_
   refine fM (k+1) ?_ ?_ ?_
   ·omega
   ·repeat' (first|exact bI _|refine bD ?_ ?_)
    exact rfl
   ·exact⟨by omega,λ i hi=>by rcases Nat.lt_succ_iff_lt_or_eq.1 hi with h|rfl;exact hx.2 i h;omega⟩
 ·refine bP rfl ?_;refine cX ?_
  refine aR Tryz.results199 (λ w hw=>?_)
  exact⟨_,rfl,by simp only[true_iff];intro i hi;exact hx.2 i (by omega),hw.done⟩
theorem Py{l:List Pr}{a:Option Addr}{ca:Nat}{w:World}(ha:Cl w a (cY l))(hx:l.length<4611686018427387904) :
  Calls prog 200 #[.slice a l.length ca] w λ e w'=>∃r:Bool,e=.returned (.bool r)/\(r=true↔E3 l)/\St w [] [] w':=by
 refine enter Tryz.func200 Tryz.ntmps200 rfl rfl (SF.s1 ha) ?_
 simp only[cC]
 refine cX ?_;refine kT ?_;refine dR ?_;refine Ip ?_;refine cS ?_
 refine iD [2,4,7,8,9,10,11,12,13,14,15] (λ k=>[(7,.int .i64 ((k:Nat):Int))]) (λ k=>k<=l.length/\∀i,i<k->(l.getD i (⟨#[]⟩,0)).1.size<=64) (λ k=>l.length-k) (0) (⟨Nat.zero_le _,λ i hi=>absurd hi (Nat.not_lt_zero i)⟩) ?_ (λ k f hx=>?_)
 ·repeat (first|exact bI _|refine bD (by exact rfl) ?_)
 dsimp only[hY,List.map,List.cons_append,List.nil_append]
 refine J0 ?_;refine Aj ?_;refine aV ?_
 refine bC (λ c8=>?_) (λ c8=>?_)
 ·refine rX ?_;refine J0 ?_;refine Rp ?_;refine aK (λ x4=>?_);refine J5 ?_;refine iI ?_;refine lZ ?_;refine Df ?_;refine aH ?_
  refine bC (λ c14=>?_) (λ c14=>?_)
  ·refine cX ?_
   refine aR Tryz.results200 (λ w hw=>?_)
   exact⟨_,rfl,by simp only[Bool.false_eq_true,false_iff];intro h;have:=h k (by omega);omega,hw.done⟩
  ·refine pI ?_;refine a8 ?_;refine Ip ?_
   refine fM (k+1) ?_ ?_ ?_
   ·omega
   ·repeat' (first|exact bI _|refine bD ?_ ?_)
    exact rfl
   ·exact⟨by omega,λ i hi=>by rcases Nat.lt_succ_iff_lt_or_eq.1 hi with h|rfl;exact hx.2 i h;omega⟩
 ·refine bP rfl ?_;refine cX ?_
  refine aR Tryz.results200 (λ w hw=>?_)
  exact⟨_,rfl,by simp only[true_iff];intro i hi;exact hx.2 i (by omega),hw.done⟩
theorem j7{l:List Pr}{a:Option Addr}{ca:Nat}{w:World}(ha:Cl w a (cY l))(hx:l.length<4611686018427387904) :
  Calls prog 171 #[.slice a l.length ca] w λ e w'=>∃r:Bool,e=.returned (.bool r)/\(r=true↔E3 l)/\St w [] [] w':=by
 refine enter Tryz.func171 Tryz.ntmps171 rfl rfl (SF.s1 ha) ?_
 simp only[cC]
 refine Hg ?_;refine Ex ?_
 refine iD [2,3,4,5,6,7,8,9,10,11,12,13,14,15,16] (λ k=>[(3,.int .i64 ((k:Nat):Int))]) (λ k=>k<=l.length/\∀i,i<k->(l.getD i (⟨#[]⟩,0)).1.size<=64) (λ k=>l.length-k) (0) (⟨Nat.zero_le _,λ i hi=>absurd hi (Nat.not_lt_zero i)⟩) ?_ (λ k f hx=>?_)
 ·repeat (first|exact bI _|refine bD (by exact rfl) ?_)
 dsimp only[hY,List.map,List.cons_append,List.nil_append]
 refine C6 ?_;refine dR ?_;refine Aj ?_
 refine bC (λ c7=>?_) (λ c7=>?_)
 ·refine rX ?_;refine jG ?_;refine fP ?_;refine J3 ?_;refine lZ ?_;refine Df ?_;refine aH ?_
  refine bC (λ c16=>?_) (λ c16=>?_)
  ·refine cX ?_
   refine aR Tryz.results171 (λ w hw=>?_)
   exact⟨_,rfl,by simp only[Bool.false_eq_true,false_iff];intro h;have:=h k (by omega);omega,hw.done⟩
  ·refine Kc0 ?_
   refine fM (k+1) ?_ ?_ ?_
   ·omega
   ·repeat' (first|exact bI _|refine bD ?_ ?_)
    exact rfl
   ·exact⟨by omega,λ i hi=>by rcases Nat.lt_succ_iff_lt_or_eq.1 hi with h|rfl;exact hx.2 i h;omega⟩
 ·refine bP rfl ?_;refine cX ?_
  refine aR Tryz.results171 (λ w hw=>?_)
  exact⟨_,rfl,by simp only[true_iff];intro i hi;exact hx.2 i (by omega),hw.done⟩
theorem Y4{l:List Pr}{a:Option Addr}{ca:Nat}{w:World}(ha:Cl w a (cY l))(hx:l.length<4611686018427387904) :
  Calls prog 193 #[.slice a l.length ca] w λ e w'=>∃r:Bool,e=.returned (.bool r)/\(r=true↔wx l)/\St w [] [] w':=by
 refine enter Tryz.func193 Tryz.ntmps193 rfl rfl (SF.s1 ha) ?_
 simp only[cC]
 refine Hg ?_;refine Ex ?_
 refine iD [2,3,4,5,6,7,8,9,10,11,12,13,14,15,16,17,18,19,20,21] (λ k=>[(3,.int .i64 ((k:Nat):Int))]) (λ k=>1<=k/\k<=l.length+1/\∀i,1<=i->i<k->dK (l.getD (i-1) (⟨#[]⟩,0)).1 (l.getD i (⟨#[]⟩,0)).1=true) (λ k=>l.length-k) (1) (⟨Nat.le_refl _,by omega,λ i h1 hi=>by omega⟩) ?_ (λ k f hx=>?_)
 ·repeat (first|exact bI _|refine bD (by exact rfl) ?_)
 dsimp only[hY,List.map,List.cons_append,List.nil_append]
 refine C6 ?_;refine dR ?_;refine Aj ?_
 refine bC (λ c7=>?_) (λ c7=>?_)
 ·refine rX ?_;refine aV ?_;refine gZ [0,1,2,3,4,5,6,7,8,9,10,11] ?_;refine iL ?_;refine Ov ?_;refine iU ?_;refine lH ?_;refine iL ?_;refine iU ?_;refine lH ?_;refine Zx ?_;refine eL ?_
  refine bC (λ c21=>?_) (λ c21=>?_)
  ·refine cX ?_
   refine aR Tryz.results193 (λ w hw=>?_)
   exact⟨_,rfl,by simp only[Bool.false_eq_true,false_iff];intro h;have:=h k (by omega) (by omega);rw[c21] at this;exact Bool.noConfusion this,hw.done⟩
  ·refine Kc0 ?_
   refine fM (k+1) ?_ ?_ ?_
   ·omega
   ·repeat' (first|exact bI _|refine bD ?_ ?_)
    exact rfl
   ·exact⟨by omega,by omega,λ i h1 hi=>by rcases Nat.lt_succ_iff_lt_or_eq.1 hi with h|rfl;exact hx.2.2 i h1 h;exact c21⟩
 ·refine bP rfl ?_;refine cX ?_
  refine aR Tryz.results193 (λ w hw=>?_)
  exact⟨_,rfl,by simp only[true_iff];intro i h1 hi;exact hx.2.2 i h1 (by omega),hw.done⟩
theorem mV{l:List Pr}{a:Option Addr}{ca:Nat}{w:World}(ha:Cl w a (cY l))(hx:l.length<4611686018427387904) :
  Calls prog 109 #[.slice a l.length ca] w λ e w'=>∃r:Bool,e=.returned (.bool r)/\(r=true↔wx l)/\St w [] [] w':=by
 refine enter Tryz.func109 Tryz.ntmps109 rfl rfl (SF.s1 ha) ?_
 simp only[cC]
 refine Hg ?_;refine Ex ?_
 refine iD [2,3,4,5,6,7,8,9,10,11,12,13,14,15,16,17,18,19,20,21] (λ k=>[(3,.int .i64 ((k:Nat):Int))]) (λ k=>1<=k/\k<=l.length+1/\∀i,1<=i->i<k->dK (l.getD (i-1) (⟨#[]⟩,0)).1 (l.getD i (⟨#[]⟩,0)).1=true) (λ k=>l.length-k) (1) (⟨Nat.le_refl _,by omega,λ i h1 hi=>by omega⟩) ?_ (λ k f hx=>?_)
 ·repeat (first|exact bI _|refine bD (by exact rfl) ?_)
 dsimp only[hY,List.map,List.cons_append,List.nil_append]
 refine C6 ?_;refine dR ?_;refine Aj ?_
 refine bC (λ c7=>?_) (λ c7=>?_)
 ·refine rX ?_;refine aV ?_;refine gZ [0,1,2,3,4,5,6,7,8,9,10,11] ?_;refine iL ?_;refine iU ?_;refine lH ?_;refine iL ?_;refine Ov ?_;refine iU ?_;refine lH ?_;refine gg ?_;refine eL ?_
  refine bC (λ c21=>?_) (λ c21=>?_)
  ·refine cX ?_
   refine aR Tryz.results109 (λ w hw=>?_)
   exact⟨_,rfl,by simp only[Bool.false_eq_true,false_iff];intro h;have:=h k (by omega) (by omega);rw[aB8 c21] at this;exact Bool.noConfusion this,hw.done⟩
  ·refine Kc0 ?_
   refine fM (k+1) ?_ ?_ ?_
   ·omega
   ·repeat' (first|exact bI _|refine bD ?_ ?_)
    exact rfl
   ·exact⟨by omega,by omega,λ i h1 hi=>by rcases Nat.lt_succ_iff_lt_or_eq.1 hi with h|rfl;exact hx.2.2 i h1 h;exact aB4 c21⟩
 ·refine bP rfl ?_;refine cX ?_
  refine aR Tryz.results109 (λ w hw=>?_)
  exact⟨_,rfl,by simp only[true_iff];intro i h1 hi;exact hx.2.2 i h1 (by omega),hw.done⟩
end
section
theorem fm(o:Int)(w:World):Calls prog 202 #[.int .i64 o] w λ e w'=>e=.returned ({Nd.zero with kind:=7,bJ:=o}:Nd).v/\St w [] [] w':=by
 refine enter Tryz.func202 Tryz.ntmps202 rfl rfl (SF.s0 w) ?_
 simp only[cC]
 refine J0 ?_;refine aK (λ x2=>?_);refine aH ?_;refine J2 ?_;refine wT ?_
 refine bE Tryz.results202 (λ w hw=>?_)
 exact⟨rfl,hw.done⟩
theorem SF.frz{w w':World}{F:Fr}{o:Ow}(h:SF w [] [] [] F [o] w'):SF w [] [] [] ((o.p,o.cs)::F) [] w':=h.freeze .head (by simp)
theorem SF.aCv{w w':World}{F:Fr}{o o2:Ow}(h:SF w [] [] [] F [o,o2] w'):SF w [] [] [] ((o2.p,o2.cs)::(o.p,o.cs)::F) [] w':=(h.freeze .head (by simp)).freeze .head (by simp)
theorem Uq:xS prog 164 24=true:=by kernel_rfl
theorem Yp:xS prog 37 8=true:=by kernel_rfl
theorem Yr{l:List Pr}{a:Option Addr}{c:Nat}{w:World}(ha:Cl w a (cY l))(hl:l.length<=11728124029610):Calls prog 124 #[.slice a l.length c] w λ e w' =>
  ∃p:Option Addr,e=.returned (.slice p l.length l.length)/\(l=[]->p=none)/\SF w [] [] [] [] [⟨p,cY l,l.length,164,2⟩] w':=by
 refine enter Tryz.func124 Tryz.ntmps124 rfl rfl (SF.s1 ha) ?_
 simp only[cC]
 refine cX ?_;refine kT ?_;refine dR ?_;refine uI ?_
 refine bC (λ c6=>?_) (λ c6=>?_)
 ·have hl0:l=[]:=List.eq_nil_of_length_eq_zero (by omega)
  subst hl0
  refine cX ?_
  refine aR Tryz.results124 (λ w hw=>?_)
  exact⟨none,rfl,λ _=>rfl,(hw.jX 164 2).aX⟩
 ·refine aZ ?_;refine J2 ?_;refine dR ?_;refine aQ (k9 rf rf vy Uq om om) (λ x9=>?_);refine zS ?_;refine de (λ x12=>?_);refine aH ?_;refine Ka4 ?_
  refine aR Tryz.results124 (λ w hw=>?_)
  exact⟨some ⟨x9,0,none⟩,rfl,λ h=>absurd (congrArg List.length h) (by simpa using c6),by simpa using hw.aX (H':=[]) (F':=[])⟩
theorem Zc{l:List Int}{a:Option Addr}{c:Nat}{w:World}(ha:Cl w a (aG l))(hl:l.length<=35184372088832):Calls prog 123 #[.slice a l.length c] w λ e w' =>
  ∃p:Option Addr,e=.returned (.slice p l.length l.length)/\(l=[]->p=none)/\SF w [] [] [] [] [⟨p,aG l,l.length,37,1⟩] w':=by
 refine enter Tryz.func123 Tryz.ntmps123 rfl rfl (SF.s1 ha) ?_
 simp only[cC]
 refine cX ?_;refine kT ?_;refine dR ?_;refine uI ?_
 refine bC (λ c6=>?_) (λ c6=>?_)
 ·have hl0:l=[]:=List.eq_nil_of_length_eq_zero (by omega)
  subst hl0
  refine cX ?_
  refine aR Tryz.results123 (λ w hw=>?_)
  exact⟨none,rfl,λ _=>rfl,(hw.jX 37 1).aX⟩
 ·refine aZ ?_;refine J2 ?_;refine dR ?_;refine aQ (Z4 rf rf Zm Yp om om) (λ x9=>?_);refine zS ?_;refine de (λ x12=>?_);refine aH ?_;refine Ka4 ?_
  refine aR Tryz.results123 (λ w hw=>?_)
  exact⟨some ⟨x9,0,none⟩,rfl,λ h=>absurd (congrArg List.length h) (by simpa using c6),by simpa using hw.aX (H':=[]) (F':=[])⟩
theorem V5{n:Nd}{xs:List Int}{ys:List Pr}{w:World}(hr:rY w n xs ys)(h1:xs.length<=35184372088832)(h2:ys.length<=11728124029610):Calls prog 78 #[n.v] w λ e w' =>
  ∃p:Option Addr×Option Addr,e=.returned ({n with brA:=p.1,brC:=xs.length,prA:=p.2,cY:=ys.length}:Nd).v/\((xs=[]->p.1=none)/\(ys=[]->p.2=none))/\SF w [] [] [] [] [⟨p.2,cY ys,ys.length,164,2⟩,⟨p.1,aG xs,xs.length,37,1⟩] w':=by
 have e1:=hr.brN;have e2:=hr.prN
 refine enter Tryz.func78 Tryz.ntmps78 rfl rfl (SF.s2 hr.br hr.pr) ?_
 simp only[cC]
 simp only[Nd.v,Nd.cells]
 refine J0 ?_;refine bM (λ x1=>?_);refine aK (λ x2=>?_);refine aH ?_;refine iI ?_;refine aD (Ul (Hc:=λ _=>[]) (Fc:=λ _=>[]) (hc:=λ w1 hw=>by rw[e1];exact Zc (hw.cl fin) h1)) (λ x5 h5=>?_);refine uM ?_;refine iI ?_;refine aD (Ul (Hc:=λ _=>[]) (Fc:=λ _=>[]) (hc:=λ w1 hw=>by rw[e2];exact Yr (hw.cl fin) h2)) (λ x9 h9=>?_);refine uM ?_;refine nI ?_;refine J5 ?_
 refine bE Tryz.results78 (λ w hw=>?_)
 exact⟨(x5,x9),by rw[e1,e2];rfl,⟨h5,h9⟩,hw.aX⟩
theorem Vp{n:Nd}{xs:List Int}{ys:List Pr}{w:World}(hr:rY w n xs ys)(h1:xs.length<=35184372088832)(h2:ys.length<=11728124029610):Calls prog 78 #[n.v] w λ e w' =>
  ∃p:Option Addr×Option Addr,e=.returned ({n with brA:=p.1,brC:=xs.length,prA:=p.2,cY:=ys.length}:Nd).v/\((xs=[]->p.1=none)/\(ys=[]->p.2=none))/\SF w [] [] [] [(p.1,aG xs),(p.2,cY ys)] [] w':=(V5 hr h1 h2).mono λ _ _ ⟨p,he,hp,hs⟩=>⟨p,he,hp,SF.aCv hs⟩
end
end Go.Proofs.YtbajmaoegmbfgaaGreat
namespace Go.Ct
section
def fF:aP:=⟨{Nd.zero with kind:=1},[],[]⟩
def aB(L:List aP)(r:Int):aP:=if 1<=r/\r<=L.length then L.getD (r-1).toNat aP.zero else aP.zero
theorem pT{L:List aP}{r:Int}(h:¬(1<=r/\r<=L.length)):aB L r=aP.zero:=if_neg h
theorem pR{L:List aP}{k:Nat}(h:k<L.length):aB L ((k+1:Nat):Int)=L.getD k aP.zero:=by
 unfold aB
 rw[if_pos (by omega),show(((k+1:Nat):Int)-1).toNat=k by omega]
def cP(L:List aP):List aP:=fF::fF::L
theorem kB(L:List aP):(cP L).length=L.length+2:=rfl
theorem Pf:fF.Fit:=⟨rfl,rfl,by decide,by decide⟩
theorem Fits.all{L:List aP}(h:Fits L):Fits (cP L):=λ v hv=>by
 simp only[cP,List.mem_cons] at hv
 rcases hv with rfl|rfl|hv
 ·exact Pf
 ·exact Pf
 ·exact h v hv
theorem Km{L:List aP}(h:Fits L)(r:Int):(aB L r).Fit:=by
 unfold aB
 split
 ·rename_i hr
  exact h.at (by omega)
 ·exact P4
structure AX where
 pn:Option Addr
 cn:Nat
 pc:Option Addr
 cc:Nat
 b1:Option Addr
 c1:Nat
 b2:Option Addr
 c2:Nat
def eU(k:Int)(cs:List Int)(init:Int):List Int:=if k=2∨k=3∨k=5∨k=6∨k=8 then cs++[init] else cs
def nM(n:Nd)(xs:List Int)(ys:List Pr)(c:Nat)(x:AX):aP :=
 aP.mk {n with main:=if n.kind=2 then((c+1:Nat):Int) else 0,prev:=if n.kind=3∨n.kind=5∨n.kind=6 then((c+1:Nat):Int) else 0,status:=if n.kind=8 then((c+1:Nat):Int) else 0,brA:=x.b1,brN:=xs.length,brC:=x.c1,prA:=x.b2,prN:=ys.length,cY:=x.c2} xs ys
theorem jY{k:Int}{cs:List Int}{init:Int}:cs.length<=(eU k cs init).length/\(eU k cs init).length<=cs.length+1:=by unfold eU;split<;>simp
theorem Lg{n:Nd}{xs:List Int}{ys:List Pr}{c:Nat}{x:AX}(h1:xs.length<=35184372088832)(h2:ys.length<=11728124029610):(nM n xs ys c x).Fit:=⟨rfl,rfl,h1,h2⟩
def aP.at_(v:aP)(p q:Option Addr):aP:=⟨{v.nd with brA:=p,brC:=v.xs.length,prA:=q,cY:=v.ys.length},v.xs,v.ys⟩
theorem aP.ei{v:aP}(h:v.Fit)(p q:Option Addr):(v.at_ p q).Fit:=⟨h.brN,h.prN,h.brS,h.prS⟩
end
end Go.Ct
namespace Go.Proofs.YtbajmaoegmbfgaaGreat
open Go.RowKit Go.Ct
section
variable{w:World}{D:List Nat}{b:Nat}{L:List aP}{cs:List Int}{gen acc:Int}{pn pc:Option Addr}{cn cc:Nat}{A:Fr}
theorem nl(w:World):Calls Tryz.prog 64 #[] w λ e w'=>∃q:Nat×Option Addr,e=.returned (.pointer (some ⟨q.1,0,none⟩))/\True /\
  SF w [] [(q.1,mO [fF,fF] [] 0 0 q.2 2 none 0)] [] [] (mW [fF,fF] [] q.2 2 none 0) w':=by
 refine enter Tryz.func64 Tryz.ntmps64 rfl rfl (SF.s0 w) ?_
 simp only[cC]
 refine cX ?_;refine J0 ?_;refine bN ?_;refine bN ?_;refine aQ (Td (c:=2) (sz:=14) rfl (λ _=>cQ sK Jr rfl rfl rfl rfl (by simp only[Dd,nX,List.cons_append,List.nil_append];exact rfl))) (λ x3=>?_);refine bN ?_;refine bN ?_;refine bM (λ x6=>?_);refine J1 ?_
 refine aR Tryz.results64 (λ w hw=>?_)
 exact⟨(x6,some ⟨x3,0,none⟩),rfl,trivial,(SF.b9 (hw.jX 37 1)).aX⟩
theorem gk(hs:SF w D [(b,mO L cs gen acc pn cn pc cc)] A [] (mW L cs pn cn pc cc) w)(r:Int)(hr:r<1):Calls Tryz.prog 25 #[.pointer (some ⟨b,0,none⟩),.int .i64 r] w λ e w'=>∃q:Unit,e=.returned (aB L r).nd.v/\True /\
  SF w D [(b,mO L cs gen acc pn cn pc cc)] [] [] (mW L cs pn cn pc cc) w':=by
 refine enter Tryz.func25 Tryz.ntmps25 rfl rfl (yX hs) ?_
 simp only[cC]
 refine J0 ?_;refine aK (λ x4=>?_);refine aH ?_;refine Kb6 ?_
 (refine eJ 7 (λ g7=>?_) (λ g7=>?_)<;>(try (exfalso;omega))<;>(refine aI ?_))
 refine yr ?_;refine Si ?_;refine Ka6 ?_
 refine bC (λ c16=>?_) (λ c16=>?_)
 ·try (exfalso;omega)
  refine Kb8 ?_
  refine bE Tryz.results25 (λ w hw=>?_)
  exact⟨(),by rw[pT (by omega)];rfl,trivial,hw.aX⟩
 ·exact nv c16
theorem dt(hs:SF w D [(b,mO L cs gen acc pn cn pc cc)] A [] (mW L cs pn cn pc cc) w){k:Nat}(hk:(k:Int)<9223372036854775807)(hl:L.length<=274877906944):Calls Tryz.prog 25 #[.pointer (some ⟨b,0,none⟩),.int .i64 ((k+1:Nat):Int)] w λ e w'=>∃q:Unit,e=.returned (aB L ((k+1:Nat):Int)).nd.v/\True /\
  SF w D [(b,mO L cs gen acc pn cn pc cc)] [] [] (mW L cs pn cn pc cc) w':=by
 refine enter Tryz.func25 Tryz.ntmps25 rfl rfl (yX hs) ?_
 simp only[cC]
 refine J0 ?_;refine aK (λ x4=>?_);refine aH ?_;refine Kb6 ?_
 (refine Ka3 ?_)
 refine yr ?_;refine Si ?_;refine Ka6 ?_
 refine bC (λ c16=>?_) (λ c16=>?_)
 ·try (exfalso;omega)
  refine Kb8 ?_
  refine bE Tryz.results25 (λ w hw=>?_)
  (exact⟨(),by rw[pT (by omega)];rfl,trivial,hw.aX⟩)
 ·try (exfalso;omega)
  refine aZ ?_;refine I1 ?_;refine J3 ?_;refine aA ?_;refine rD ?_;refine Rp ?_;refine J5 ?_
  refine bE Tryz.results25 (λ w hw=>?_)
  (exact⟨(),by rw[pR (by omega)];rfl,trivial,hw.aX⟩)
theorem Md(hs:SF w D [(b,mO L cs gen acc pn cn pc cc)] A [] (mW L cs pn cn pc cc) w)(r:Int)(hr:r<=9223372036854775807)(hl:L.length<=274877906944):Calls Tryz.prog 25 #[.pointer (some ⟨b,0,none⟩),.int .i64 r] w λ e w'=>∃q:Unit,e=.returned (aB L r).nd.v/\True /\
  SF w D [(b,mO L cs gen acc pn cn pc cc)] [] [] (mW L cs pn cn pc cc) w':=by
 rcases Int.lt_or_le r 1 with h|h
 ·exact gk hs r h
 ·obtain⟨k,rfl⟩:∃k:Nat,r=((k+1:Nat):Int):=⟨(r-1).toNat,by omega⟩
  exact dt hs (by omega) hl
end
end Go.Proofs.YtbajmaoegmbfgaaGreat
