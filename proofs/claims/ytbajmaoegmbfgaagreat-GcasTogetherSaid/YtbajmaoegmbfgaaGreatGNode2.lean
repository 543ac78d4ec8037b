/- Nodes are compared. -/
import Derived.Test.YtbajmaoegmbfgaaGreatGAr2

set_option linter.unusedSimpArgs false
set_option linter.unusedVariables false
namespace Go.Proofs.YtbajmaoegmbfgaaGreat
section
open Go.RowKit Go.Ct
theorem Xa{a b:Nd}{x1 x2:List Int}{y1 y2:List Pr}{w:World}(ha:rO w a x1 y1)(hb:rO w b x2 y2) :
  Calls Tryz.prog 113 #[a.v,b.v] w λ e w'=>∃r:Bool,e=.returned (.bool r)/\(r=true↔rQ a b x1 x2 y1 y2)/\St w [] [] w':=by
 have e1:=ha.brN;have e2:=hb.brN;have e3:=ha.prN;have e4:=hb.prN
 refine enter Tryz.func113 Tryz.ntmps113 rfl rfl (SF.s0 w) ?_
 simp only[bX]
 refine J0 ?_;refine bI (λ x2=>?_);refine bI (λ x3=>?_);refine iB ?_;refine gZ ?_;refine J3 ?_;refine lS ?_;refine aA ?_
 (refine eE 10 (λ g10=>?_) (λ g10=>?_)<;>(first|refine aI ?_|(refine aF ?_;refine aE ?_)))
 all_goals (refine Aa ?_;refine Rq ?_;refine aA ?_)
 all_goals (first|refine aI ?_|(refine eE 17 (λ g17=>?_) (λ g17=>?_)<;>(first|refine aI ?_|(refine aF ?_;refine aE ?_))))
 all_goals (refine Aa ?_;refine Rq ?_;refine aA ?_)
 all_goals (first|refine aI ?_|(refine eE 24 (λ g24=>?_) (λ g24=>?_)<;>(first|refine aI ?_|(refine aF ?_;refine aE ?_))))
 all_goals (refine Aa ?_;refine Rq ?_;refine aA ?_)
 all_goals (first|refine aI ?_|(refine eE 31 (λ g31=>?_) (λ g31=>?_)<;>(first|refine aI ?_|(refine aF ?_;refine aE ?_))))
 all_goals (refine Aa ?_;refine Rq ?_;refine aA ?_)
 all_goals (first|refine aI ?_|(refine eE 38 (λ g38=>?_) (λ g38=>?_)<;>(first|refine aI ?_|(refine aF ?_;refine aE ?_))))
 all_goals (refine Aa ?_;(first|refine aI ?_|(refine aF ?_;refine vn ?_));refine cB ?_;refine aA ?_)
 all_goals (first|refine aI ?_|(refine eE 45 (λ g45=>?_) (λ g45=>?_)<;>(first|refine aI ?_|(refine aF ?_;refine aE ?_))))
 all_goals (refine Aa ?_;refine Rq ?_;refine aH ?_)
 all_goals
 refine bB (λ c51=>?_) (λ c51=>?_)
 ·all_goals refine cO ?_
  all_goals
   refine aT Tryz.results113 (λ w hw=>?_)
   exact⟨_,rfl,by simp_all[rQ],hw.done⟩
 ·try exact nv c51
  all_goals (refine bA ?_;refine gZ ?_;refine J3 ?_;refine aS (cV (hc:=λ w1 hw=>by simp only[e1,e2];exact cr (ha.br.gH hw.st) (hb.br.gH hw.st) ha.brS)) (λ x56=>?_);refine aA ?_)
  all_goals ((refine eE 57 (λ g57=>?_) (λ g57=>?_)<;>(first|refine aI ?_|(refine aF ?_;refine aE ?_))))
  all_goals (refine Aa ?_;(first|refine aI ?_|(refine aF ?_;refine aS (cV (hc:=λ w1 hw=>by simp only[e3,e4];exact aBa (ha.pr.gH hw.st) (hb.pr.gH hw.st) ha.prS)) (λ x62=>?_)));refine cB ?_;refine aA ?_)
  all_goals (first|refine aI ?_|(refine eE 64 (λ g64=>?_) (λ g64=>?_)<;>(first|refine aI ?_|(refine aF ?_;refine aE ?_))))
  all_goals (refine Aa ?_;refine wK ?_;refine aA ?_)
  all_goals (first|refine aI ?_|(refine eE 71 (λ g71=>?_) (λ g71=>?_)<;>(first|refine aI ?_|(refine aF ?_;refine aE ?_))))
  all_goals (refine Aa ?_;refine wK ?_;refine aA ?_)
  all_goals (first|refine aI ?_|(refine eE 78 (λ g78=>?_) (λ g78=>?_)<;>(first|refine aI ?_|(refine aF ?_;refine aE ?_))))
  all_goals (refine Aa ?_;refine wK ?_;refine aA ?_)
  all_goals (first|refine aI ?_|(refine eE 85 (λ g85=>?_) (λ g85=>?_)<;>(first|refine aI ?_|(refine aF ?_;refine aE ?_))))
  all_goals (refine Aa ?_;refine wK ?_;refine aA ?_)
  all_goals (first|refine aI ?_|(refine eE 92 (λ g92=>?_) (λ g92=>?_)<;>(first|refine aI ?_|(refine aF ?_;refine aE ?_))))
  all_goals (refine Aa ?_;refine wK ?_;refine J1 ?_)
  all_goals
   refine aT Tryz.results113 (λ w hw=>?_)
   exact⟨_,rfl,by simp_all[rQ],hw.done⟩
theorem w9{a b:Nd}{x1 x2:List Int}{y1 y2:List Pr}{w:World}(ha:rO w a x1 y1)(hb:rO w b x2 y2) :
  Calls Tryz.prog 196 #[a.v,b.v] w λ e w'=>∃r:Bool,e=.returned (.bool r)/\(r=true↔rQ a b x1 x2 y1 y2)/\St w [] [] w':=by
 have e1:=ha.brN;have e2:=hb.brN;have e3:=ha.prN;have e4:=hb.prN
 refine enter Tryz.func196 Tryz.ntmps196 rfl rfl (SF.s0 w) ?_
 simp only[bX]
 refine J0 ?_;refine bI (λ x2=>?_);refine bI (λ x3=>?_);refine iB ?_;refine X8 (by dsimp only[List.append]) ?_;refine J3 ?_;refine J3 ?_;refine mE ?_;refine aA ?_
 (refine eE 10 (λ g10=>?_) (λ g10=>?_)<;>(first|refine aI ?_|(refine aF ?_;refine aE ?_)))
 all_goals (refine Aa ?_;refine wK ?_;refine aA ?_)
 all_goals (first|refine aI ?_|(refine eE 17 (λ g17=>?_) (λ g17=>?_)<;>(first|refine aI ?_|(refine aF ?_;refine aE ?_))))
 all_goals (refine Aa ?_;refine wK ?_;refine aA ?_)
 all_goals (first|refine aI ?_|(refine eE 24 (λ g24=>?_) (λ g24=>?_)<;>(first|refine aI ?_|(refine aF ?_;refine aE ?_))))
 all_goals (refine Aa ?_;refine wK ?_;refine aA ?_)
 all_goals (first|refine aI ?_|(refine eE 31 (λ g31=>?_) (λ g31=>?_)<;>(first|refine aI ?_|(refine aF ?_;refine aE ?_))))
 all_goals (refine Aa ?_;(first|refine aI ?_|(refine aF ?_;refine aS (cV (hc:=λ w1 hw=>by simp only[e1,e2];exact s5 (ha.br.gH hw.st) (hb.br.gH hw.st) ha.brS)) (λ x36=>?_)));refine cB ?_;refine aA ?_)
 all_goals (first|refine aI ?_|(refine eE 38 (λ g38=>?_) (λ g38=>?_)<;>(first|refine aI ?_|(refine aF ?_;refine aE ?_))))
 all_goals (refine Aa ?_;refine wK ?_;refine aA ?_)
 all_goals (first|refine aI ?_|(refine eE 45 (λ g45=>?_) (λ g45=>?_)<;>(first|refine aI ?_|(refine aF ?_;refine aE ?_))))
 all_goals (refine Aa ?_;(first|refine aI ?_|(refine aF ?_;refine v9 ?_));refine cB ?_;refine aA ?_)
 all_goals (first|refine aI ?_|(refine eE 52 (λ g52=>?_) (λ g52=>?_)<;>(first|refine aI ?_|(refine aF ?_;refine aE ?_))))
 all_goals (refine Aa ?_;refine wK ?_;refine aA ?_)
 all_goals (first|refine aI ?_|(refine eE 59 (λ g59=>?_) (λ g59=>?_)<;>(first|refine aI ?_|(refine aF ?_;refine aE ?_))))
 all_goals (refine Aa ?_;(first|refine aI ?_|(refine aF ?_;refine aS (cV (hc:=λ w1 hw=>by simp only[e3,e4];exact aAo (ha.pr.gH hw.st) (hb.pr.gH hw.st) ha.prS)) (λ x64=>?_)));refine cB ?_;refine aA ?_)
 all_goals (first|refine aI ?_|(refine eE 66 (λ g66=>?_) (λ g66=>?_)<;>(first|refine aI ?_|(refine aF ?_;refine aE ?_))))
 all_goals (refine Aa ?_;refine wK ?_;refine aA ?_)
 all_goals (first|refine aI ?_|(refine eE 73 (λ g73=>?_) (λ g73=>?_)<;>(first|refine aI ?_|(refine aF ?_;refine aE ?_))))
 all_goals (refine Aa ?_;refine wK ?_;refine aA ?_)
 all_goals (first|refine aI ?_|(refine eE 80 (λ g80=>?_) (λ g80=>?_)<;>(first|refine aI ?_|(refine aF ?_;refine aE ?_))))
 all_goals (refine Aa ?_;refine wK ?_;refine aA ?_)
 all_goals (first|refine aI ?_|(refine eE 87 (λ g87=>?_) (λ g87=>?_)<;>(first|refine aI ?_|(refine aF ?_;refine aE ?_))))
 all_goals (refine Aa ?_;refine wK ?_;refine aA ?_)
 all_goals (first|refine aI ?_|(refine eE 94 (λ g94=>?_) (λ g94=>?_)<;>(first|refine aI ?_|(refine aF ?_;refine aE ?_))))
 all_goals (refine Aa ?_;refine wK ?_;refine J1 ?_)
 all_goals
 refine aT Tryz.results196 (λ w hw=>?_)
 exact⟨_,rfl,by simp_all[rQ],hw.done⟩
theorem Sw(a:Nd)(w:World):Calls Tryz.prog 80 #[a.v] w λ e w'=>∃r:Bool,e=.returned (.bool r)/\(r=true↔(a.kind=3∨a.kind=5∨a.kind=6))/\St w [] [] w':=by
 refine enter Tryz.func80 Tryz.ntmps80 rfl rfl (SF.s0 w) ?_
 simp only[bX]
 refine J0 ?_;refine bI (λ x1=>?_);refine iB ?_;refine gZ ?_;refine aH ?_;refine cR ?_;refine aV ?_;refine lN ?_
 refine bB (λ c5=>?_) (λ c5=>?_)
 ·refine bA ?_
  refine bB (λ c5=>?_) (λ c5=>?_)
  ·refine cO ?_
   refine aT Tryz.results80 (λ w hw=>?_)
   exact⟨_,rfl,by simp_all,hw.done⟩
  ·refine nZ ?_;refine cO ?_
   refine aT Tryz.results80 (λ w hw=>?_)
   exact⟨_,rfl,by simp_all,hw.done⟩
 ·refine lN ?_
  refine bB (λ c5=>?_) (λ c5=>?_)
  ·refine bA ?_
   refine bB (λ c5=>?_) (λ c5=>?_)
   ·refine cO ?_
    refine aT Tryz.results80 (λ w hw=>?_)
    exact⟨_,rfl,by simp_all,hw.done⟩
   ·refine nZ ?_;refine cO ?_
    refine aT Tryz.results80 (λ w hw=>?_)
    exact⟨_,rfl,by simp_all,hw.done⟩
  ·refine dL ?_;refine Ro ?_
   refine bB (λ c5=>?_) (λ c5=>?_)
   ·refine cO ?_
    refine aT Tryz.results80 (λ w hw=>?_)
    exact⟨_,rfl,by simp_all,hw.done⟩
   ·refine nZ ?_;refine cO ?_
    refine aT Tryz.results80 (λ w hw=>?_)
    exact⟨_,rfl,by simp_all,hw.done⟩
theorem wX(a:Nd)(w:World):Calls Tryz.prog 41 #[a.v] w λ e w'=>∃r:Bool,e=.returned (.bool r)/\(r=true↔(a.kind=3∨a.kind=5∨a.kind=6))/\St w [] [] w':=by
 refine enter Tryz.func41 Tryz.ntmps41 rfl rfl (SF.s0 w) ?_
 simp only[bX]
 refine J0 ?_;refine bI (λ x1=>?_);refine J1 ?_;refine gZ ?_;refine mE ?_;refine aA ?_
 (refine eE 6 (λ g6=>?_) (λ g6=>?_)<;>(first|refine aI ?_|(refine aF ?_;refine aE ?_)))
 all_goals (refine J78 ?_;refine aA ?_)
 all_goals (first|refine aI ?_|(refine eE 11 (λ g11=>?_) (λ g11=>?_)<;>(first|refine aI ?_|(refine aF ?_;refine aE ?_))))
 all_goals (refine J78 ?_;refine J1 ?_)
 all_goals
 refine aT Tryz.results41 (λ w hw=>?_)
 exact⟨_,rfl,by simp_all,hw.done⟩
end

/- Loops over slices that are read: contracts, the second part. -/
section
open Go.RowKit Go.Ct
theorem Ta{xs:List Int}{a:Option Addr}{ca:Nat}{w:World}(ha:Cl w a (aG xs))(hx:xs.length<4611686018427387904) :
  Calls Tryz.prog 199 #[.slice a xs.length ca] w λ e w'=>∃r:Bool,e=.returned (.bool r)/\(r=true↔Pos xs)/\St w [] [] w':=by
 refine enter Tryz.func199 Tryz.ntmps199 rfl rfl (SF.s1 ha) ?_
 simp only[bX]
 refine cO ?_;refine kB ?_;refine dB ?_;refine Ee ?_;refine cR ?_
 refine gB [2,4,7,8,9,10,11,12,13] (λ k=>[(7,.int .i64 ((k:Nat):Int))]) (λ k=>k<=xs.length/\∀i,i<k->1<=xs.getD i 0) (λ k=>xs.length-k) (0) (⟨Nat.zero_le _,λ i hi=>absurd hi (Nat.not_lt_zero i)⟩) ?_ (λ k f hx=>?_)
 ·repeat (first|exact bD _|refine aX (by exact rfl) ?_)
 dsimp only[gU,List.map,List.cons_append,List.nil_append]
 refine J0 ?_;refine xA ?_;refine aV ?_
 refine bB (λ c8=>?_) (λ c8=>?_)
 ·refine qE ?_;refine J0 ?_;refine Rl ?_;refine J1 ?_;refine J2 ?_;refine xA ?_
  refine bB (λ c12=>?_) (λ c12=>?_)
  ·refine cO ?_
   refine aT Tryz.results199 (λ w hw=>?_)
   exact⟨_,rfl,by simp only[Bool.false_eq_true,false_iff];intro h;have:=h k (by omega);omega,hw.done⟩
  ·refine nZ ?_;refine Zn ?_;refine Ee ?_
   refine eK (k+1) ?_ ?_ ?_
   ·omega
   ·repeat' (first|exact bD _|refine aX ?_ ?_)
    exact rfl
   ·exact⟨by omega,λ i hi=>by rcases Nat.lt_succ_iff_lt_or_eq.1 hi with h|rfl;exact hx.2 i h;omega⟩
 ·refine bN rfl ?_;refine cO ?_
  refine aT Tryz.results199 (λ w hw=>?_)
  exact⟨_,rfl,by simp only[true_iff];intro i hi;exact hx.2 i (by omega),hw.done⟩
theorem Ob{l:List Pr}{a:Option Addr}{ca:Nat}{w:World}(ha:Cl w a (cU l))(hx:l.length<4611686018427387904) :
  Calls Tryz.prog 200 #[.slice a l.length ca] w λ e w'=>∃r:Bool,e=.returned (.bool r)/\(r=true↔E9 l)/\St w [] [] w':=by
 refine enter Tryz.func200 Tryz.ntmps200 rfl rfl (SF.s1 ha) ?_
 simp only[bX]
 refine cO ?_;refine kB ?_;refine dB ?_;refine Ee ?_;refine cR ?_
 refine gB [2,4,7,8,9,10,11,12,13,14,15] (λ k=>[(7,.int .i64 ((k:Nat):Int))]) (λ k=>k<=l.length/\∀i,i<k->(l.getD i (⟨#[]⟩,0)).1.size<=64) (λ k=>l.length-k) (0) (⟨Nat.zero_le _,λ i hi=>absurd hi (Nat.not_lt_zero i)⟩) ?_ (λ k f hx=>?_)
 ·repeat (first|exact bD _|refine aX (by exact rfl) ?_)
 dsimp only[gU,List.map,List.cons_append,List.nil_append]
 refine J0 ?_;refine xA ?_;refine aV ?_
 refine bB (λ c8=>?_) (λ c8=>?_)
 ·refine qE ?_;refine J0 ?_;refine Rl ?_;refine aJ (λ x4=>?_);refine J5 ?_;refine gZ ?_;refine lY ?_;refine Dh ?_;refine aH ?_
  refine bB (λ c14=>?_) (λ c14=>?_)
  ·refine cO ?_
   refine aT Tryz.results200 (λ w hw=>?_)
   exact⟨_,rfl,by simp only[Bool.false_eq_true,false_iff];intro h;have:=h k (by omega);omega,hw.done⟩
  ·refine nZ ?_;refine Zn ?_;refine Ee ?_
   refine eK (k+1) ?_ ?_ ?_
   ·omega
   ·repeat' (first|exact bD _|refine aX ?_ ?_)
    exact rfl
   ·exact⟨by omega,λ i hi=>by rcases Nat.lt_succ_iff_lt_or_eq.1 hi with h|rfl;exact hx.2 i h;omega⟩
 ·refine bN rfl ?_;refine cO ?_
  refine aT Tryz.results200 (λ w hw=>?_)
  exact⟨_,rfl,by simp only[true_iff];intro i hi;exact hx.2 i (by omega),hw.done⟩
theorem jk{l:List Pr}{a:Option Addr}{ca:Nat}{w:World}(ha:Cl w a (cU l))(hx:l.length<4611686018427387904) :
  Calls Tryz.prog 171 #[.slice a l.length ca] w λ e w'=>∃r:Bool,e=.returned (.bool r)/\(r=true↔E9 l)/\St w [] [] w':=by
 refine enter Tryz.func171 Tryz.ntmps171 rfl rfl (SF.s1 ha) ?_
 simp only[bX]
 refine G0 ?_;refine Du ?_
 refine gB [2,3,4,5,6,7,8,9,10,11,12,13,14,15,16] (λ k=>[(3,.int .i64 ((k:Nat):Int))]) (λ k=>k<=l.length/\∀i,i<k->(l.getD i (⟨#[]⟩,0)).1.size<=64) (λ k=>l.length-k) (0) (⟨Nat.zero_le _,λ i hi=>absurd hi (Nat.not_lt_zero i)⟩) ?_ (λ k f hx=>?_)
 ·repeat (first|exact bD _|refine aX (by exact rfl) ?_)
 dsimp only[gU,List.map,List.cons_append,List.nil_append]
 refine Ds ?_;refine dB ?_;refine xA ?_
 refine bB (λ c7=>?_) (λ c7=>?_)
 ·refine qE ?_;refine iR ?_;refine gN ?_;refine J3 ?_;refine lY ?_;refine Dh ?_;refine aH ?_
  refine bB (λ c16=>?_) (λ c16=>?_)
  ·refine cO ?_
   refine aT Tryz.results171 (λ w hw=>?_)
   exact⟨_,rfl,by simp only[Bool.false_eq_true,false_iff];intro h;have:=h k (by omega);omega,hw.done⟩
  ·refine nZ ?_;refine uN ?_
   refine eK (k+1) ?_ ?_ ?_
   ·omega
   ·repeat' (first|exact bD _|refine aX ?_ ?_)
    exact rfl
   ·exact⟨by omega,λ i hi=>by rcases Nat.lt_succ_iff_lt_or_eq.1 hi with h|rfl;exact hx.2 i h;omega⟩
 ·refine bN rfl ?_;refine cO ?_
  refine aT Tryz.results171 (λ w hw=>?_)
  exact⟨_,rfl,by simp only[true_iff];intro i hi;exact hx.2 i (by omega),hw.done⟩
theorem Ze{l:List Pr}{a:Option Addr}{ca:Nat}{w:World}(ha:Cl w a (cU l))(hx:l.length<4611686018427387904) :
  Calls Tryz.prog 193 #[.slice a l.length ca] w λ e w'=>∃r:Bool,e=.returned (.bool r)/\(r=true↔vz l)/\St w [] [] w':=by
 refine enter Tryz.func193 Tryz.ntmps193 rfl rfl (SF.s1 ha) ?_
 simp only[bX]
 refine G0 ?_;refine Du ?_
 refine gB [2,3,4,5,6,7,8,9,10,11,12,13,14,15,16,17,18,19,20,21] (λ k=>[(3,.int .i64 ((k:Nat):Int))]) (λ k=>1<=k/\k<=l.length+1/\∀i,1<=i->i<k->dH (l.getD (i-1) (⟨#[]⟩,0)).1 (l.getD i (⟨#[]⟩,0)).1=true) (λ k=>l.length-k) (1) (⟨Nat.le_refl _,by omega,λ i h1 hi=>by omega⟩) ?_ (λ k f hx=>?_)
 ·repeat (first|exact bD _|refine aX (by exact rfl) ?_)
 dsimp only[gU,List.map,List.cons_append,List.nil_append]
 refine Ds ?_;refine dB ?_;refine xA ?_
 refine bB (λ c7=>?_) (λ c7=>?_)
 ·refine qE ?_;refine aV ?_;refine gJ [0,1,2,3,4,5,6,7,8,9,10,11] ?_;refine iH ?_;refine Qv ?_;refine iT ?_;refine kG ?_;refine iH ?_;refine iT ?_;refine kG ?_;refine bj ?_;refine dY ?_
  refine bB (λ c21=>?_) (λ c21=>?_)
  ·refine cO ?_
   refine aT Tryz.results193 (λ w hw=>?_)
   exact⟨_,rfl,by simp only[Bool.false_eq_true,false_iff];intro h;have:=h k (by omega) (by omega);rw[c21] at this;exact Bool.noConfusion this,hw.done⟩
  ·refine nZ ?_;refine uN ?_
   refine eK (k+1) ?_ ?_ ?_
   ·omega
   ·repeat' (first|exact bD _|refine aX ?_ ?_)
    exact rfl
   ·exact⟨by omega,by omega,λ i h1 hi=>by rcases Nat.lt_succ_iff_lt_or_eq.1 hi with h|rfl;exact hx.2.2 i h1 h;exact c21⟩
 ·refine bN rfl ?_;refine cO ?_
  refine aT Tryz.results193 (λ w hw=>?_)
  exact⟨_,rfl,by simp only[true_iff];intro i h1 hi;exact hx.2.2 i h1 (by omega),hw.done⟩
theorem mA{l:List Pr}{a:Option Addr}{ca:Nat}{w:World}(ha:Cl w a (cU l))(hx:l.length<4611686018427387904) :
  Calls Tryz.prog 109 #[.slice a l.length ca] w λ e w'=>∃r:Bool,e=.returned (.bool r)/\(r=true↔vz l)/\St w [] [] w':=by
 refine enter Tryz.func109 Tryz.ntmps109 rfl rfl (SF.s1 ha) ?_
 simp only[bX]
 refine G0 ?_;refine Du ?_
 refine gB [2,3,4,5,6,7,8,9,10,11,12,13,14,15,16,17,18,19,20,21] (λ k=>[(3,.int .i64 ((k:Nat):Int))]) (λ k=>1<=k/\k<=l.length+1/\∀i,1<=i->i<k->dH (l.getD (i-1) (⟨#[]⟩,0)).1 (l.getD i (⟨#[]⟩,0)).1=true) (λ k=>l.length-k) (1) (⟨Nat.le_refl _,by omega,λ i h1 hi=>by omega⟩) ?_ (λ k f hx=>?_)
 ·repeat (first|exact bD _|refine aX (by exact rfl) ?_)
 dsimp only[gU,List.map,List.cons_append,List.nil_append]
 refine Ds ?_;refine dB ?_;refine xA ?_
 refine bB (λ c7=>?_) (λ c7=>?_)
 ·refine qE ?_;refine aV ?_;refine gJ [0,1,2,3,4,5,6,7,8,9,10,11] ?_;refine iH ?_;refine iT ?_;refine kG ?_;refine iH ?_;refine Qv ?_;refine iT ?_;refine kG ?_;refine ck ?_;refine dY ?_
  refine bB (λ c21=>?_) (λ c21=>?_)
  ·refine cO ?_
   refine aT Tryz.results109 (λ w hw=>?_)
   exact⟨_,rfl,by simp only[Bool.false_eq_true,false_iff];intro h;have:=h k (by omega) (by omega);rw[aBo c21] at this;exact Bool.noConfusion this,hw.done⟩
  ·refine nZ ?_;refine uN ?_
   refine eK (k+1) ?_ ?_ ?_
   ·omega
   ·repeat' (first|exact bD _|refine aX ?_ ?_)
    exact rfl
   ·exact⟨by omega,by omega,λ i h1 hi=>by rcases Nat.lt_succ_iff_lt_or_eq.1 hi with h|rfl;exact hx.2.2 i h1 h;exact aA1 c21⟩
 ·refine bN rfl ?_;refine cO ?_
  refine aT Tryz.results109 (λ w hw=>?_)
  exact⟨_,rfl,by simp only[true_iff];intro i h1 hi;exact hx.2.2 i h1 (by omega),hw.done⟩
end

end Go.Proofs.YtbajmaoegmbfgaaGreat
