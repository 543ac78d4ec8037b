/- Merged. -/
import Derived.Test.YtbajmaoegmbfgaaGreatGJoin
set_option linter.unusedSimpArgs false
set_option linter.unusedVariables false
namespace Go.Proofs.YtbajmaoegmbfgaaGreat
open Go.Proofs.Tryz (prog)
open Go.RowKit Go.Ct
section
theorem po{a b:Nd}{x1 x2:List Int}{y1 y2:List Pr}{w:World}(ha:sG w a x1 y1)(hb:sG w b x2 y2) :
  Calls prog 113 #[a.v,b.v] w λ e w'=>∃r:Bool,e=.returned (.bool r)/\(r=true↔sQ a b x1 x2 y1 y2)/\St w [] [] w':=by
 have e1:=ha.brN;have e2:=hb.brN;have e3:=ha.prN;have e4:=hb.prN
 refine enter Tryz.func113 Tryz.ntmps113 rfl rfl (SF.s0 w) ?_
 simp only[cG]
 refine J0 ?_;refine bM (λ x2=>?_);refine bM (λ x3=>?_);refine iT ?_;refine iH ?_;refine J3 ?_;refine nD ?_;refine aB ?_
 (refine eI 10 (λ g10=>?_) (λ g10=>?_)<;>refine Ka1 ?_)
 all_goals (refine Cq ?_;refine Ry ?_;refine aB ?_)
 all_goals (first|refine aJ ?_|(refine eI 17 (λ g17=>?_) (λ g17=>?_)<;>refine Ka1 ?_))
 all_goals (refine Cq ?_;refine Ry ?_;refine aB ?_)
 all_goals (first|refine aJ ?_|(refine eI 24 (λ g24=>?_) (λ g24=>?_)<;>refine Ka1 ?_))
 all_goals (refine Cq ?_;refine Ry ?_;refine aB ?_)
 all_goals (first|refine aJ ?_|(refine eI 31 (λ g31=>?_) (λ g31=>?_)<;>refine Ka1 ?_))
 all_goals (refine Cq ?_;refine Ry ?_;refine aB ?_)
 all_goals (first|refine aJ ?_|(refine eI 38 (λ g38=>?_) (λ g38=>?_)<;>refine Ka1 ?_))
 all_goals (refine Cq ?_;(first|refine aJ ?_|(refine aF ?_;refine vl ?_));refine Ka6 ?_)
 all_goals (first|refine aJ ?_|(refine eI 45 (λ g45=>?_) (λ g45=>?_)<;>refine Ka1 ?_))
 all_goals (refine Cq ?_;refine Ry ?_;refine aI ?_)
 all_goals
 refine bC (λ c51=>?_) (λ c51=>?_)
 ·all_goals refine dA ?_
  all_goals
   refine aT Tryz.results113 (λ w hw=>?_)
   exact⟨_,rfl,by simp_all[sQ],hw.done⟩
 ·try exact nv c51
  all_goals (refine aZ ?_;refine iH ?_;refine J3 ?_;refine aP (cV (hc:=λ w1 hw=>by simp only[e1,e2];exact xr (ha.br.gH hw.st) (hb.br.gH hw.st) ha.brS)) (λ x56=>?_);refine aB ?_)
  all_goals ((refine eI 57 (λ g57=>?_) (λ g57=>?_)<;>refine Ka1 ?_))
  all_goals (refine Cq ?_;(first|refine aJ ?_|(refine aF ?_;refine aP (cV (hc:=λ w1 hw=>by simp only[e3,e4];exact aBz (ha.pr.gH hw.st) (hb.pr.gH hw.st) ha.prS)) (λ x62=>?_)));refine Ka6 ?_)
  all_goals (first|refine aJ ?_|(refine eI 64 (λ g64=>?_) (λ g64=>?_)<;>refine Ka1 ?_))
  all_goals (refine Kc6 ?_)
  all_goals (first|refine aJ ?_|(refine eI 71 (λ g71=>?_) (λ g71=>?_)<;>refine Ka1 ?_))
  all_goals (refine Kc6 ?_)
  all_goals (first|refine aJ ?_|(refine eI 78 (λ g78=>?_) (λ g78=>?_)<;>refine Ka1 ?_))
  all_goals (refine Kc6 ?_)
  all_goals (first|refine aJ ?_|(refine eI 85 (λ g85=>?_) (λ g85=>?_)<;>refine Ka1 ?_))
  all_goals (refine Kc6 ?_)
  all_goals (first|refine aJ ?_|(refine eI 92 (λ g92=>?_) (λ g92=>?_)<;>refine Ka1 ?_))
  all_goals (refine Cq ?_;refine uM ?_;refine J1 ?_)
  all_goals
   refine aT Tryz.results113 (λ w hw=>?_)
   exact⟨_,rfl,by simp_all[sQ],hw.done⟩
theorem aAV{a b:Nd}{x1 x2:List Int}{y1 y2:List Pr}{w:World}(ha:sG w a x1 y1)(hb:sG w b x2 y2) :
  Calls prog 196 #[a.v,b.v] w λ e w'=>∃r:Bool,e=.returned (.bool r)/\(r=true↔sQ a b x1 x2 y1 y2)/\St w [] [] w':=by
 have e1:=ha.brN;have e2:=hb.brN;have e3:=ha.prN;have e4:=hb.prN
 refine enter Tryz.func196 Tryz.ntmps196 rfl rfl (SF.s0 w) ?_
 simp only[cG]
 refine J0 ?_;refine bM (λ x2=>?_);refine bM (λ x3=>?_);refine iT ?_;refine Y9 (by dsimp only[List.append]) ?_;refine J3 ?_;refine J3 ?_;refine lF ?_;refine aB ?_
 (refine eI 10 (λ g10=>?_) (λ g10=>?_)<;>refine Ka1 ?_)
 all_goals (refine Kc6 ?_)
 all_goals (first|refine aJ ?_|(refine eI 17 (λ g17=>?_) (λ g17=>?_)<;>refine Ka1 ?_))
 all_goals (refine Kc6 ?_)
 all_goals (first|refine aJ ?_|(refine eI 24 (λ g24=>?_) (λ g24=>?_)<;>refine Ka1 ?_))
 all_goals (refine Kc6 ?_)
 all_goals (first|refine aJ ?_|(refine eI 31 (λ g31=>?_) (λ g31=>?_)<;>refine Ka1 ?_))
 all_goals (refine Cq ?_;(first|refine aJ ?_|(refine aF ?_;refine aP (cV (hc:=λ w1 hw=>by simp only[e1,e2];exact ud (ha.br.gH hw.st) (hb.br.gH hw.st) ha.brS)) (λ x36=>?_)));refine Ka6 ?_)
 all_goals (first|refine aJ ?_|(refine eI 38 (λ g38=>?_) (λ g38=>?_)<;>refine Ka1 ?_))
 all_goals (refine Kc6 ?_)
 all_goals (first|refine aJ ?_|(refine eI 45 (λ g45=>?_) (λ g45=>?_)<;>refine Ka1 ?_))
 all_goals (refine Cq ?_;(first|refine aJ ?_|(refine aF ?_;refine vz ?_));refine Ka6 ?_)
 all_goals (first|refine aJ ?_|(refine eI 52 (λ g52=>?_) (λ g52=>?_)<;>refine Ka1 ?_))
 all_goals (refine Kc6 ?_)
 all_goals (first|refine aJ ?_|(refine eI 59 (λ g59=>?_) (λ g59=>?_)<;>refine Ka1 ?_))
 all_goals (refine Cq ?_;(first|refine aJ ?_|(refine aF ?_;refine aP (cV (hc:=λ w1 hw=>by simp only[e3,e4];exact aAf (ha.pr.gH hw.st) (hb.pr.gH hw.st) ha.prS)) (λ x64=>?_)));refine Ka6 ?_)
 all_goals (first|refine aJ ?_|(refine eI 66 (λ g66=>?_) (λ g66=>?_)<;>refine Ka1 ?_))
 all_goals (refine Kc6 ?_)
 all_goals (first|refine aJ ?_|(refine eI 73 (λ g73=>?_) (λ g73=>?_)<;>refine Ka1 ?_))
 all_goals (refine Kc6 ?_)
 all_goals (first|refine aJ ?_|(refine eI 80 (λ g80=>?_) (λ g80=>?_)<;>refine Ka1 ?_))
 all_goals (refine Kc6 ?_)
 all_goals (first|refine aJ ?_|(refine eI 87 (λ g87=>?_) (λ g87=>?_)<;>refine Ka1 ?_))
 all_goals (refine Kc6 ?_)
 all_goals (first|refine aJ ?_|(refine eI 94 (λ g94=>?_) (λ g94=>?_)<;>refine Ka1 ?_))
 all_goals (refine Cq ?_;refine uM ?_;refine J1 ?_)
 all_goals
 refine aT Tryz.results196 (λ w hw=>?_)
 exact⟨_,rfl,by simp_all[sQ],hw.done⟩
theorem So(a:Nd)(w:World):Calls prog 80 #[a.v] w λ e w'=>∃r:Bool,e=.returned (.bool r)/\(r=true↔(a.kind=3∨a.kind=5∨a.kind=6))/\St w [] [] w':=by
 refine enter Tryz.func80 Tryz.ntmps80 rfl rfl (SF.s0 w) ?_
 simp only[cG]
 refine J0 ?_;refine bM (λ x1=>?_);refine iT ?_;refine iH ?_;refine aI ?_;refine cW ?_;refine aV ?_;refine mB ?_
 refine bC (λ c5=>?_) (λ c5=>?_)
 ·refine aZ ?_
  refine bC (λ c5=>?_) (λ c5=>?_)
  ·refine dA ?_
   refine aT Tryz.results80 (λ w hw=>?_)
   exact⟨_,rfl,by simp_all,hw.done⟩
  ·refine Kb0 ?_
   refine aT Tryz.results80 (λ w hw=>?_)
   exact⟨_,rfl,by simp_all,hw.done⟩
 ·refine mB ?_
  refine bC (λ c5=>?_) (λ c5=>?_)
  ·refine aZ ?_
   refine bC (λ c5=>?_) (λ c5=>?_)
   ·refine dA ?_
    refine aT Tryz.results80 (λ w hw=>?_)
    exact⟨_,rfl,by simp_all,hw.done⟩
   ·refine Kb0 ?_
    refine aT Tryz.results80 (λ w hw=>?_)
    exact⟨_,rfl,by simp_all,hw.done⟩
  ·refine dR ?_;refine Rt ?_
   refine bC (λ c5=>?_) (λ c5=>?_)
   ·refine dA ?_
    refine aT Tryz.results80 (λ w hw=>?_)
    exact⟨_,rfl,by simp_all,hw.done⟩
   ·refine Kb0 ?_
    refine aT Tryz.results80 (λ w hw=>?_)
    exact⟨_,rfl,by simp_all,hw.done⟩
theorem xR(a:Nd)(w:World):Calls prog 41 #[a.v] w λ e w'=>∃r:Bool,e=.returned (.bool r)/\(r=true↔(a.kind=3∨a.kind=5∨a.kind=6))/\St w [] [] w':=by
 refine enter Tryz.func41 Tryz.ntmps41 rfl rfl (SF.s0 w) ?_
 simp only[cG]
 refine J0 ?_;refine bM (λ x1=>?_);refine J1 ?_;refine iH ?_;refine lF ?_;refine aB ?_
 (refine eI 6 (λ g6=>?_) (λ g6=>?_)<;>refine Ka1 ?_)
 all_goals (refine yb ?_;refine aB ?_)
 all_goals (first|refine aJ ?_|(refine eI 11 (λ g11=>?_) (λ g11=>?_)<;>refine Ka1 ?_))
 all_goals (refine yb ?_;refine J1 ?_)
 all_goals
 refine aT Tryz.results41 (λ w hw=>?_)
 exact⟨_,rfl,by simp_all,hw.done⟩
end
section
theorem Tu{xs:List Int}{a:Option Addr}{ca:Nat}{w:World}(ha:Cl w a (aH xs))(hx:xs.length<4611686018427387904) :
  Calls prog 199 #[.slice a xs.length ca] w λ e w'=>∃r:Bool,e=.returned (.bool r)/\(r=true↔Pos xs)/\St w [] [] w':=by
 refine enter Tryz.func199 Tryz.ntmps199 rfl rfl (SF.s1 ha) ?_
 simp only[cG]
 refine dA ?_;refine kT ?_;refine dS ?_;refine Lk ?_;refine cW ?_
 refine iF [2,4,7,8,9,10,11,12,13] (λ k=>[(7,.int .i64 ((k:Nat):Int))]) (λ k=>k<=xs.length/\∀i,i<k->1<=xs.getD i 0) (λ k=>xs.length-k) (0) (⟨Nat.zero_le _,λ i hi=>absurd hi (Nat.not_lt_zero i)⟩) ?_ (λ k f hx=>?_)
 ·repeat (first|exact bJ _|refine bF (by exact rfl) ?_)
 dsimp only[iC,List.map,List.cons_append,List.nil_append]
 refine J0 ?_;refine Bi ?_;refine aV ?_
 refine bC (λ c8=>?_) (λ c8=>?_)
 ·refine rY ?_;refine J0 ?_;refine Rw ?_;refine Ka4 ?_;refine Bi ?_
  refine bC (λ c12=>?_) (λ c12=>?_)
  ·refine dA ?_
   refine aT Tryz.results199 (λ w hw=>?_)
   exact⟨_,rfl,by simp only[Bool.false_eq_true,false_iff];intro h;have:=h k (by omega);omega,hw.done⟩
  ·refine pF ?_;refine oq ?_;refine Lk ?_
   refine fP (k+1) ?_ ?_ ?_
   ·omega
   ·repeat' (first|exact bJ _|refine bF ?_ ?_)
    exact rfl
   ·exact⟨by omega,λ i hi=>by rcases Nat.lt_succ_iff_lt_or_eq.1 hi with h|rfl;exact hx.2 i h;omega⟩
 ·refine bT rfl ?_;refine dA ?_
  refine aT Tryz.results199 (λ w hw=>?_)
  exact⟨_,rfl,by simp only[true_iff];intro i hi;exact hx.2 i (by omega),hw.done⟩
theorem Pc{l:List Pr}{a:Option Addr}{ca:Nat}{w:World}(ha:Cl w a (cX l))(hx:l.length<4611686018427387904) :
  Calls prog 200 #[.slice a l.length ca] w λ e w'=>∃r:Bool,e=.returned (.bool r)/\(r=true↔Hs l)/\St w [] [] w':=by
 refine enter Tryz.func200 Tryz.ntmps200 rfl rfl (SF.s1 ha) ?_
 simp only[cG]
 refine dA ?_;refine kT ?_;refine dS ?_;refine Lk ?_;refine cW ?_
 refine iF [2,4,7,8,9,10,11,12,13,14,15] (λ k=>[(7,.int .i64 ((k:Nat):Int))]) (λ k=>k<=l.length/\∀i,i<k->(l.getD i (⟨#[]⟩,0)).1.size<=64) (λ k=>l.length-k) (0) (⟨Nat.zero_le _,λ i hi=>absurd hi (Nat.not_lt_zero i)⟩) ?_ (λ k f hx=>?_)
 ·repeat (first|exact bJ _|refine bF (by exact rfl) ?_)
 dsimp only[iC,List.map,List.cons_append,List.nil_append]
 refine J0 ?_;refine Bi ?_;refine aV ?_
 refine bC (λ c8=>?_) (λ c8=>?_)
 ·refine rY ?_;refine J0 ?_;refine Rw ?_;refine aL (λ x4=>?_);refine J5 ?_;refine iH ?_;refine mH ?_;refine Dv ?_;refine aI ?_
  refine bC (λ c14=>?_) (λ c14=>?_)
  ·refine dA ?_
   refine aT Tryz.results200 (λ w hw=>?_)
   exact⟨_,rfl,by simp only[Bool.false_eq_true,false_iff];intro h;have:=h k (by omega);omega,hw.done⟩
  ·refine pF ?_;refine oq ?_;refine Lk ?_
   refine fP (k+1) ?_ ?_ ?_
   ·omega
   ·repeat' (first|exact bJ _|refine bF ?_ ?_)
    exact rfl
   ·exact⟨by omega,λ i hi=>by rcases Nat.lt_succ_iff_lt_or_eq.1 hi with h|rfl;exact hx.2 i h;omega⟩
 ·refine bT rfl ?_;refine dA ?_
  refine aT Tryz.results200 (λ w hw=>?_)
  exact⟨_,rfl,by simp only[true_iff];intro i hi;exact hx.2 i (by omega),hw.done⟩
theorem lh{l:List Pr}{a:Option Addr}{ca:Nat}{w:World}(ha:Cl w a (cX l))(hx:l.length<4611686018427387904) :
  Calls prog 171 #[.slice a l.length ca] w λ e w'=>∃r:Bool,e=.returned (.bool r)/\(r=true↔Hs l)/\St w [] [] w':=by
 refine enter Tryz.func171 Tryz.ntmps171 rfl rfl (SF.s1 ha) ?_
 simp only[cG]
 refine E8 ?_;refine D8 ?_
 refine iF [2,3,4,5,6,7,8,9,10,11,12,13,14,15,16] (λ k=>[(3,.int .i64 ((k:Nat):Int))]) (λ k=>k<=l.length/\∀i,i<k->(l.getD i (⟨#[]⟩,0)).1.size<=64) (λ k=>l.length-k) (0) (⟨Nat.zero_le _,λ i hi=>absurd hi (Nat.not_lt_zero i)⟩) ?_ (λ k f hx=>?_)
 ·repeat (first|exact bJ _|refine bF (by exact rfl) ?_)
 dsimp only[iC,List.map,List.cons_append,List.nil_append]
 refine C4 ?_;refine dS ?_;refine Bi ?_
 refine bC (λ c7=>?_) (λ c7=>?_)
 ·refine rY ?_;refine jF ?_;refine fT ?_;refine J3 ?_;refine mH ?_;refine Dv ?_;refine aI ?_
  refine bC (λ c16=>?_) (λ c16=>?_)
  ·refine dA ?_
   refine aT Tryz.results171 (λ w hw=>?_)
   exact⟨_,rfl,by simp only[Bool.false_eq_true,false_iff];intro h;have:=h k (by omega);omega,hw.done⟩
  ·refine Kc1 ?_
   refine fP (k+1) ?_ ?_ ?_
   ·omega
   ·repeat' (first|exact bJ _|refine bF ?_ ?_)
    exact rfl
   ·exact⟨by omega,λ i hi=>by rcases Nat.lt_succ_iff_lt_or_eq.1 hi with h|rfl;exact hx.2 i h;omega⟩
 ·refine bT rfl ?_;refine dA ?_
  refine aT Tryz.results171 (λ w hw=>?_)
  exact⟨_,rfl,by simp only[true_iff];intro i hi;exact hx.2 i (by omega),hw.done⟩
theorem Zp{l:List Pr}{a:Option Addr}{ca:Nat}{w:World}(ha:Cl w a (cX l))(hx:l.length<4611686018427387904) :
  Calls prog 193 #[.slice a l.length ca] w λ e w'=>∃r:Bool,e=.returned (.bool r)/\(r=true↔w6 l)/\St w [] [] w':=by
 refine enter Tryz.func193 Tryz.ntmps193 rfl rfl (SF.s1 ha) ?_
 simp only[cG]
 refine E8 ?_;refine D8 ?_
 refine iF [2,3,4,5,6,7,8,9,10,11,12,13,14,15,16,17,18,19,20,21] (λ k=>[(3,.int .i64 ((k:Nat):Int))]) (λ k=>1<=k/\k<=l.length+1/\∀i,1<=i->i<k->dM (l.getD (i-1) (⟨#[]⟩,0)).1 (l.getD i (⟨#[]⟩,0)).1=true) (λ k=>l.length-k) (1) (⟨Nat.le_refl _,by omega,λ i h1 hi=>by omega⟩) ?_ (λ k f hx=>?_)
 ·repeat (first|exact bJ _|refine bF (by exact rfl) ?_)
 dsimp only[iC,List.map,List.cons_append,List.nil_append]
 refine C4 ?_;refine dS ?_;refine Bi ?_
 refine bC (λ c7=>?_) (λ c7=>?_)
 ·refine rY ?_;refine aV ?_;refine gZ [0,1,2,3,4,5,6,7,8,9,10,11] ?_;refine iK ?_;refine Rl ?_;refine iW ?_;refine lK ?_;refine iK ?_;refine iW ?_;refine lK ?_;refine li ?_;refine eL ?_
  refine bC (λ c21=>?_) (λ c21=>?_)
  ·refine dA ?_
   refine aT Tryz.results193 (λ w hw=>?_)
   exact⟨_,rfl,by simp only[Bool.false_eq_true,false_iff];intro h;have:=h k (by omega) (by omega);rw[c21] at this;exact Bool.noConfusion this,hw.done⟩
  ·refine Kc1 ?_
   refine fP (k+1) ?_ ?_ ?_
   ·omega
   ·repeat' (first|exact bJ _|refine bF ?_ ?_)
    exact rfl
   ·exact⟨by omega,by omega,λ i h1 hi=>by rcases Nat.lt_succ_iff_lt_or_eq.1 hi with h|rfl;exact hx.2.2 i h1 h;exact c21⟩
 ·refine bT rfl ?_;refine dA ?_
  refine aT Tryz.results193 (λ w hw=>?_)
  exact⟨_,rfl,by simp only[true_iff];intro i h1 hi;exact hx.2.2 i h1 (by omega),hw.done⟩
theorem mS{l:List Pr}{a:Option Addr}{ca:Nat}{w:World}(ha:Cl w a (cX l))(hx:l.length<4611686018427387904) :
  Calls prog 109 #[.slice a l.length ca] w λ e w'=>∃r:Bool,e=.returned (.bool r)/\(r=true↔w6 l)/\St w [] [] w':=by
 refine enter Tryz.func109 Tryz.ntmps109 rfl rfl (SF.s1 ha) ?_
 simp only[cG]
 refine E8 ?_;refine D8 ?_
 refine iF [2,3,4,5,6,7,8,9,10,11,12,13,14,15,16,17,18,19,20,21] (λ k=>[(3,.int .i64 ((k:Nat):Int))]) (λ k=>1<=k/\k<=l.length+1/\∀i,1<=i->i<k->dM (l.getD (i-1) (⟨#[]⟩,0)).1 (l.getD i (⟨#[]⟩,0)).1=true) (λ k=>l.length-k) (1) (⟨Nat.le_refl _,by omega,λ i h1 hi=>by omega⟩) ?_ (λ k f hx=>?_)
 ·repeat (first|exact bJ _|refine bF (by exact rfl) ?_)
 dsimp only[iC,List.map,List.cons_append,List.nil_append]
 refine C4 ?_;refine dS ?_;refine Bi ?_
 refine bC (λ c7=>?_) (λ c7=>?_)
 ·refine rY ?_;refine aV ?_;refine gZ [0,1,2,3,4,5,6,7,8,9,10,11] ?_;refine iK ?_;refine iW ?_;refine lK ?_;refine iK ?_;refine Rl ?_;refine iW ?_;refine lK ?_;refine eh ?_;refine eL ?_
  refine bC (λ c21=>?_) (λ c21=>?_)
  ·refine dA ?_
   refine aT Tryz.results109 (λ w hw=>?_)
   exact⟨_,rfl,by simp only[Bool.false_eq_true,false_iff];intro h;have:=h k (by omega) (by omega);rw[aCv c21] at this;exact Bool.noConfusion this,hw.done⟩
  ·refine Kc1 ?_
   refine fP (k+1) ?_ ?_ ?_
   ·omega
   ·repeat' (first|exact bJ _|refine bF ?_ ?_)
    exact rfl
   ·exact⟨by omega,by omega,λ i h1 hi=>by rcases Nat.lt_succ_iff_lt_or_eq.1 hi with h|rfl;exact hx.2.2 i h1 h;exact aBY c21⟩
 ·refine bT rfl ?_;refine dA ?_
  refine aT Tryz.results109 (λ w hw=>?_)
  exact⟨_,rfl,by simp only[true_iff];intro i h1 hi;exact hx.2.2 i h1 (by omega),hw.done⟩
end
section
theorem eu(o:Int)(w:World):Calls prog 202 #[.int .i64 o] w λ e w'=>e=.returned ({Nd.zero with kind:=7,bK:=o}:Nd).v/\St w [] [] w':=by
 refine enter Tryz.func202 Tryz.ntmps202 rfl rfl (SF.s0 w) ?_
 simp only[cG]
 refine J0 ?_;refine aL (λ x2=>?_);refine aI ?_;refine J2 ?_;refine xF ?_
 refine bD Tryz.results202 (λ w hw=>?_)
 exact⟨rfl,hw.done⟩
theorem SF.frz{w w':World}{F:Fr}{o:Ow}(h:SF w [] [] [] F [o] w'):SF w [] [] [] ((o.p,o.cs)::F) [] w':=h.freeze .head (by simp)
theorem SF.aC5{w w':World}{F:Fr}{o o2:Ow}(h:SF w [] [] [] F [o,o2] w'):SF w [] [] [] ((o2.p,o2.cs)::(o.p,o.cs)::F) [] w':=(h.freeze .head (by simp)).freeze .head (by simp)
theorem Tz:xY prog 164 24=true:=by kernel_rfl
theorem Yw:xY prog 37 8=true:=by kernel_rfl
theorem X9{l:List Pr}{a:Option Addr}{c:Nat}{w:World}(ha:Cl w a (cX l))(hl:l.length<=11728124029610):Calls prog 124 #[.slice a l.length c] w λ e w' =>
  ∃p:Option Addr,e=.returned (.slice p l.length l.length)/\(l=[]->p=none)/\SF w [] [] [] [] [⟨p,cX l,l.length,164,2⟩] w':=by
 refine enter Tryz.func124 Tryz.ntmps124 rfl rfl (SF.s1 ha) ?_
 simp only[cG]
 refine dA ?_;refine kT ?_;refine dS ?_;refine uQ ?_
 refine bC (λ c6=>?_) (λ c6=>?_)
 ·have hl0:l=[]:=List.eq_nil_of_length_eq_zero (by omega)
  subst hl0
  refine dA ?_
  refine aT Tryz.results124 (λ w hw=>?_)
  exact⟨none,rfl,λ _=>rfl,(hw.kA 164 2).aY⟩
 ·refine aZ ?_;refine J2 ?_;refine dS ?_;refine aP (lz rf rf vk Tz om om) (λ x9=>?_);refine zZ ?_;refine ir (λ x12=>?_);refine aI ?_;refine Ka5 ?_
  refine aT Tryz.results124 (λ w hw=>?_)
  exact⟨some ⟨x9,0,none⟩,rfl,λ h=>absurd (congrArg List.length h) (by simpa using c6),by simpa using hw.aY (H':=[]) (F':=[])⟩
theorem Yu{l:List Int}{a:Option Addr}{c:Nat}{w:World}(ha:Cl w a (aH l))(hl:l.length<=35184372088832):Calls prog 123 #[.slice a l.length c] w λ e w' =>
  ∃p:Option Addr,e=.returned (.slice p l.length l.length)/\(l=[]->p=none)/\SF w [] [] [] [] [⟨p,aH l,l.length,37,1⟩] w':=by
 refine enter Tryz.func123 Tryz.ntmps123 rfl rfl (SF.s1 ha) ?_
 simp only[cG]
 refine dA ?_;refine kT ?_;refine dS ?_;refine uQ ?_
 refine bC (λ c6=>?_) (λ c6=>?_)
 ·have hl0:l=[]:=List.eq_nil_of_length_eq_zero (by omega)
  subst hl0
  refine dA ?_
  refine aT Tryz.results123 (λ w hw=>?_)
  exact⟨none,rfl,λ _=>rfl,(hw.kA 37 1).aY⟩
 ·refine aZ ?_;refine J2 ?_;refine dS ?_;refine aP (bs rf rf Zu Yw om om) (λ x9=>?_);refine zZ ?_;refine ir (λ x12=>?_);refine aI ?_;refine Ka5 ?_
  refine aT Tryz.results123 (λ w hw=>?_)
  exact⟨some ⟨x9,0,none⟩,rfl,λ h=>absurd (congrArg List.length h) (by simpa using c6),by simpa using hw.aY (H':=[]) (F':=[])⟩
theorem U1{n:Nd}{xs:List Int}{ys:List Pr}{w:World}(hr:sG w n xs ys)(h1:xs.length<=35184372088832)(h2:ys.length<=11728124029610):Calls prog 78 #[n.v] w λ e w' =>
  ∃p:Option Addr×Option Addr,e=.returned ({n with brA:=p.1,brC:=xs.length,prA:=p.2,cX:=ys.length}:Nd).v/\((xs=[]->p.1=none)/\(ys=[]->p.2=none))/\SF w [] [] [] [] [⟨p.2,cX ys,ys.length,164,2⟩,⟨p.1,aH xs,xs.length,37,1⟩] w':=by
 have e1:=hr.brN;have e2:=hr.prN
 refine enter Tryz.func78 Tryz.ntmps78 rfl rfl (SF.s2 hr.br hr.pr) ?_
 simp only[cG]
 simp only[Nd.v,Nd.cells]
 refine J0 ?_;refine bM (λ x1=>?_);refine aL (λ x2=>?_);refine aI ?_;refine iH ?_;refine aE (U0 (Hc:=λ _=>[]) (Fc:=λ _=>[]) (hc:=λ w1 hw=>by rw[e1];exact Yu (hw.cl fin) h1)) (λ x5 h5=>?_);refine vL ?_;refine iH ?_;refine aE (U0 (Hc:=λ _=>[]) (Fc:=λ _=>[]) (hc:=λ w1 hw=>by rw[e2];exact X9 (hw.cl fin) h2)) (λ x9 h9=>?_);refine vL ?_;refine oR ?_;refine J5 ?_
 refine bD Tryz.results78 (λ w hw=>?_)
 exact⟨(x5,x9),by rw[e1,e2];rfl,⟨h5,h9⟩,hw.aY⟩
theorem Vh{n:Nd}{xs:List Int}{ys:List Pr}{w:World}(hr:sG w n xs ys)(h1:xs.length<=35184372088832)(h2:ys.length<=11728124029610):Calls prog 78 #[n.v] w λ e w' =>
  ∃p:Option Addr×Option Addr,e=.returned ({n with brA:=p.1,brC:=xs.length,prA:=p.2,cX:=ys.length}:Nd).v/\((xs=[]->p.1=none)/\(ys=[]->p.2=none))/\SF w [] [] [] [(p.1,aH xs),(p.2,cX ys)] [] w':=(U1 hr h1 h2).mono λ _ _ ⟨p,he,hp,hs⟩=>⟨p,he,hp,SF.aC5 hs⟩
end
end Go.Proofs.YtbajmaoegmbfgaaGreat
namespace Go.Ct
section
def fK:aQ:=⟨{Nd.zero with kind:=1},[],[]⟩
def aC(L:List aQ)(r:Int):aQ:=if 1<=r/\r<=L.length then L.getD (r-1).toNat aQ.zero else aQ.zero
theorem pW{L:List aQ}{r:Int}(h:¬(1<=r/\r<=L.length)):aC L r=aQ.zero:=if_neg h
theorem sE{L:List aQ}{k:Nat}(h:k<L.length):aC L ((k+1:Nat):Int)=L.getD k aQ.zero:=by
 unfold aC
 rw[if_pos (by omega),show(((k+1:Nat):Int)-1).toNat=k by omega]
def dL(L:List aQ):List aQ:=fK::fK::L
theorem oH(L:List aQ):(dL L).length=L.length+2:=rfl
theorem Zh{L:List aQ}(h:Fits L)(r:Int):(aC L r).Fit:=by
 unfold aC
 split
 ·rename_i hr
  exact h.at (by omega)
 ·exact Ou
structure AX where
 pn:Option Addr
 cn:Nat
 pc:Option Addr
 cc:Nat
 b1:Option Addr
 c1:Nat
 b2:Option Addr
 c2:Nat
def eZ(k:Int)(cs:List Int)(init:Int):List Int:=if k=2∨k=3∨k=5∨k=6∨k=8 then cs++[init] else cs
def mZ(n:Nd)(xs:List Int)(ys:List Pr)(c:Nat)(x:AX):aQ :=
 aQ.mk {n with main:=if n.kind=2 then((c+1:Nat):Int) else 0,prev:=if n.kind=3∨n.kind=5∨n.kind=6 then((c+1:Nat):Int) else 0,status:=if n.kind=8 then((c+1:Nat):Int) else 0,brA:=x.b1,brN:=xs.length,brC:=x.c1,prA:=x.b2,prN:=ys.length,cX:=x.c2} xs ys
theorem jY{k:Int}{cs:List Int}{init:Int}:cs.length<=(eZ k cs init).length/\(eZ k cs init).length<=cs.length+1:=by unfold eZ;split<;>simp
theorem Ma{n:Nd}{xs:List Int}{ys:List Pr}{c:Nat}{x:AX}(h1:xs.length<=35184372088832)(h2:ys.length<=11728124029610):(mZ n xs ys c x).Fit:=⟨rfl,rfl,h1,h2⟩
def aQ.at_(v:aQ)(p q:Option Addr):aQ:=⟨{v.nd with brA:=p,brC:=v.xs.length,prA:=q,cX:=v.ys.length},v.xs,v.ys⟩
theorem aQ.aAU{v:aQ}(h:v.Fit)(p q:Option Addr):(v.at_ p q).Fit:=⟨h.brN,h.prN,h.brS,h.prS⟩
end
end Go.Ct
namespace Go.Proofs.YtbajmaoegmbfgaaGreat
open Go.RowKit Go.Ct
section
variable{w:World}{D:List Nat}{b:Nat}{L:List aQ}{cs:List Int}{gen acc:Int}{pn pc:Option Addr}{cn cc:Nat}{A:Fr}
theorem mu(w:World):Calls Tryz.prog 64 #[] w λ e w'=>∃q:Nat×Option Addr,e=.returned (.pointer (some ⟨q.1,0,none⟩))/\True /\
  SF w [] [(q.1,mO [fK,fK] [] 0 0 q.2 2 none 0)] [] [] (mW [fK,fK] [] q.2 2 none 0) w':=by
 refine enter Tryz.func64 Tryz.ntmps64 rfl rfl (SF.s0 w) ?_
 simp only[cG]
 refine dA ?_;refine J0 ?_;refine bO ?_;refine bO ?_;refine aP (Ty (c:=2) (sz:=14) rfl (λ _=>cN sD Jh rfl rfl rfl rfl (by simp only[C8,nK,List.cons_append,List.nil_append];exact rfl))) (λ x3=>?_);refine bO ?_;refine bO ?_;refine bM (λ x6=>?_);refine J1 ?_
 refine aT Tryz.results64 (λ w hw=>?_)
 exact⟨(x6,some ⟨x3,0,none⟩),rfl,trivial,(SF.m4 (hw.kA 37 1)).aY⟩
theorem me(hs:SF w D [(b,mO L cs gen acc pn cn pc cc)] A [] (mW L cs pn cn pc cc) w)(r:Int)(hr:r<1):Calls Tryz.prog 25 #[.pointer (some ⟨b,0,none⟩),.int .i64 r] w λ e w'=>∃q:Unit,e=.returned (aC L r).nd.v/\True /\
  SF w D [(b,mO L cs gen acc pn cn pc cc)] [] [] (mW L cs pn cn pc cc) w':=by
 refine enter Tryz.func25 Tryz.ntmps25 rfl rfl (yZ hs) ?_
 simp only[cG]
 refine J0 ?_;refine aL (λ x4=>?_);refine aI ?_;refine Kb6 ?_
 (refine eI 7 (λ g7=>?_) (λ g7=>?_)<;>(try (exfalso;omega))<;>(refine aJ ?_))
 refine J79 ?_;refine Ts ?_;refine Ka7 ?_
 refine bC (λ c16=>?_) (λ c16=>?_)
 ·try (exfalso;omega)
  refine Kb8 ?_
  refine bD Tryz.results25 (λ w hw=>?_)
  exact⟨(),by rw[pW (by omega)];rfl,trivial,hw.aY⟩
 ·exact nv c16
theorem kx(hs:SF w D [(b,mO L cs gen acc pn cn pc cc)] A [] (mW L cs pn cn pc cc) w){k:Nat}(hk:(k:Int)<9223372036854775807)(hl:L.length<=274877906944):Calls Tryz.prog 25 #[.pointer (some ⟨b,0,none⟩),.int .i64 ((k+1:Nat):Int)] w λ e w'=>∃q:Unit,e=.returned (aC L ((k+1:Nat):Int)).nd.v/\True /\
  SF w D [(b,mO L cs gen acc pn cn pc cc)] [] [] (mW L cs pn cn pc cc) w':=by
 refine enter Tryz.func25 Tryz.ntmps25 rfl rfl (yZ hs) ?_
 simp only[cG]
 refine J0 ?_;refine aL (λ x4=>?_);refine aI ?_;refine Kb6 ?_
 (refine Ka3 ?_)
 refine J79 ?_;refine Ts ?_;refine Ka7 ?_
 refine bC (λ c16=>?_) (λ c16=>?_)
 ·try (exfalso;omega)
  refine Kb8 ?_
  refine bD Tryz.results25 (λ w hw=>?_)
  (exact⟨(),by rw[pW (by omega)];rfl,trivial,hw.aY⟩)
 ·try (exfalso;omega)
  refine aZ ?_;refine I1 ?_;refine J3 ?_;refine aB ?_;refine qW ?_;refine Rw ?_;refine J5 ?_
  refine bD Tryz.results25 (λ w hw=>?_)
  (exact⟨(),by rw[sE (by omega)];rfl,trivial,hw.aY⟩)
theorem Ew(hs:SF w D [(b,mO L cs gen acc pn cn pc cc)] A [] (mW L cs pn cn pc cc) w)(r:Int)(hr:r<=9223372036854775807)(hl:L.length<=274877906944):Calls Tryz.prog 25 #[.pointer (some ⟨b,0,none⟩),.int .i64 r] w λ e w'=>∃q:Unit,e=.returned (aC L r).nd.v/\True /\
  SF w D [(b,mO L cs gen acc pn cn pc cc)] [] [] (mW L cs pn cn pc cc) w':=by
 rcases Int.lt_or_le r 1 with h|h
 ·exact me hs r h
 ·obtain⟨k,rfl⟩:∃k:Nat,r=((k+1:Nat):Int):=⟨(r-1).toNat,by omega⟩
  exact kx hs (by omega) hl
end
end Go.Proofs.YtbajmaoegmbfgaaGreat
