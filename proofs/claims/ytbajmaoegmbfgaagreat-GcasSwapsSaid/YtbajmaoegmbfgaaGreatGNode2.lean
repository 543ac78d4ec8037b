/- Nodes are compared. -/
import Derived.Test.YtbajmaoegmbfgaaGreatGAr2

set_option linter.unusedSimpArgs false
set_option linter.unusedVariables false
namespace Go.Proofs.YtbajmaoegmbfgaaGreat
section
open Go.RowKit Go.Ct
theorem Vz{a b:Nd}{x1 x2:List Int}{y1 y2:List Pr}{w:World}(ha:rH w a x1 y1)(hb:rH w b x2 y2) :
  Calls Tryz.prog 113 #[a.v,b.v] w λ e w'=>∃r:Bool,e=.returned (.bool r)/\(r=true↔rL a b x1 x2 y1 y2)/\St w [] [] w':=by
 have e1:=ha.brN;have e2:=hb.brN;have e3:=ha.prN;have e4:=hb.prN
 refine enter Tryz.func113 Tryz.ntmps113 rfl rfl (SF.s0 w) ?_
 simp only[bX]
 refine J0 ?_;refine bK (λ x2=>?_);refine bK (λ x3=>?_);refine hZ ?_;refine hX ?_;refine J3 ?_;refine lO ?_;refine aA ?_
 (refine dZ 10 (λ g10=>?_) (λ g10=>?_)<;>(first|refine aI ?_|(refine aF ?_;refine aE ?_)))
 all_goals (refine Au ?_;refine Q9 ?_;refine aA ?_)
 all_goals (first|refine aI ?_|(refine dZ 17 (λ g17=>?_) (λ g17=>?_)<;>(first|refine aI ?_|(refine aF ?_;refine aE ?_))))
 all_goals (refine Au ?_;refine Q9 ?_;refine aA ?_)
 all_goals (first|refine aI ?_|(refine dZ 24 (λ g24=>?_) (λ g24=>?_)<;>(first|refine aI ?_|(refine aF ?_;refine aE ?_))))
 all_goals (refine Au ?_;refine Q9 ?_;refine aA ?_)
 all_goals (first|refine aI ?_|(refine dZ 31 (λ g31=>?_) (λ g31=>?_)<;>(first|refine aI ?_|(refine aF ?_;refine aE ?_))))
 all_goals (refine Au ?_;refine Q9 ?_;refine aA ?_)
 all_goals (first|refine aI ?_|(refine dZ 38 (λ g38=>?_) (λ g38=>?_)<;>(first|refine aI ?_|(refine aF ?_;refine aE ?_))))
 all_goals (refine Au ?_;(first|refine aI ?_|(refine aF ?_;refine uz ?_));refine cA ?_;refine aA ?_)
 all_goals (first|refine aI ?_|(refine dZ 45 (λ g45=>?_) (λ g45=>?_)<;>(first|refine aI ?_|(refine aF ?_;refine aE ?_))))
 all_goals (refine Au ?_;refine Q9 ?_;refine aH ?_)
 all_goals
 refine bB (λ c51=>?_) (λ c51=>?_)
 ·all_goals refine cO ?_
  all_goals
   refine aS Tryz.results113 (λ w hw=>?_)
   exact⟨_,rfl,by simp_all[rL],hw.done⟩
 ·try exact nv c51
  all_goals (refine bA ?_;refine hX ?_;refine J3 ?_;refine aT (cV (hc:=λ w1 hw=>by simp only[e1,e2];exact df (ha.br.fZ hw.st) (hb.br.fZ hw.st) ha.brS)) (λ x56=>?_);refine aA ?_)
  all_goals ((refine dZ 57 (λ g57=>?_) (λ g57=>?_)<;>(first|refine aI ?_|(refine aF ?_;refine aE ?_))))
  all_goals (refine Au ?_;(first|refine aI ?_|(refine aF ?_;refine aT (cV (hc:=λ w1 hw=>by simp only[e3,e4];exact aA3 (ha.pr.fZ hw.st) (hb.pr.fZ hw.st) ha.prS)) (λ x62=>?_)));refine cA ?_;refine aA ?_)
  all_goals (first|refine aI ?_|(refine dZ 64 (λ g64=>?_) (λ g64=>?_)<;>(first|refine aI ?_|(refine aF ?_;refine aE ?_))))
  all_goals (refine Au ?_;refine vA ?_;refine aA ?_)
  all_goals (first|refine aI ?_|(refine dZ 71 (λ g71=>?_) (λ g71=>?_)<;>(first|refine aI ?_|(refine aF ?_;refine aE ?_))))
  all_goals (refine Au ?_;refine vA ?_;refine aA ?_)
  all_goals (first|refine aI ?_|(refine dZ 78 (λ g78=>?_) (λ g78=>?_)<;>(first|refine aI ?_|(refine aF ?_;refine aE ?_))))
  all_goals (refine Au ?_;refine vA ?_;refine aA ?_)
  all_goals (first|refine aI ?_|(refine dZ 85 (λ g85=>?_) (λ g85=>?_)<;>(first|refine aI ?_|(refine aF ?_;refine aE ?_))))
  all_goals (refine Au ?_;refine vA ?_;refine aA ?_)
  all_goals (first|refine aI ?_|(refine dZ 92 (λ g92=>?_) (λ g92=>?_)<;>(first|refine aI ?_|(refine aF ?_;refine aE ?_))))
  all_goals (refine Au ?_;refine vA ?_;refine J1 ?_)
  all_goals
   refine aS Tryz.results113 (λ w hw=>?_)
   exact⟨_,rfl,by simp_all[rL],hw.done⟩
theorem aAe{a b:Nd}{x1 x2:List Int}{y1 y2:List Pr}{w:World}(ha:rH w a x1 y1)(hb:rH w b x2 y2) :
  Calls Tryz.prog 196 #[a.v,b.v] w λ e w'=>∃r:Bool,e=.returned (.bool r)/\(r=true↔rL a b x1 x2 y1 y2)/\St w [] [] w':=by
 have e1:=ha.brN;have e2:=hb.brN;have e3:=ha.prN;have e4:=hb.prN
 refine enter Tryz.func196 Tryz.ntmps196 rfl rfl (SF.s0 w) ?_
 simp only[bX]
 refine J0 ?_;refine bK (λ x2=>?_);refine bK (λ x3=>?_);refine hZ ?_;refine Yw (by dsimp only[List.append]) ?_;refine J3 ?_;refine J3 ?_;refine mK ?_;refine aA ?_
 (refine dZ 10 (λ g10=>?_) (λ g10=>?_)<;>(first|refine aI ?_|(refine aF ?_;refine aE ?_)))
 all_goals (refine Au ?_;refine vA ?_;refine aA ?_)
 all_goals (first|refine aI ?_|(refine dZ 17 (λ g17=>?_) (λ g17=>?_)<;>(first|refine aI ?_|(refine aF ?_;refine aE ?_))))
 all_goals (refine Au ?_;refine vA ?_;refine aA ?_)
 all_goals (first|refine aI ?_|(refine dZ 24 (λ g24=>?_) (λ g24=>?_)<;>(first|refine aI ?_|(refine aF ?_;refine aE ?_))))
 all_goals (refine Au ?_;refine vA ?_;refine aA ?_)
 all_goals (first|refine aI ?_|(refine dZ 31 (λ g31=>?_) (λ g31=>?_)<;>(first|refine aI ?_|(refine aF ?_;refine aE ?_))))
 all_goals (refine Au ?_;(first|refine aI ?_|(refine aF ?_;refine aT (cV (hc:=λ w1 hw=>by simp only[e1,e2];exact nf (ha.br.fZ hw.st) (hb.br.fZ hw.st) ha.brS)) (λ x36=>?_)));refine cA ?_;refine aA ?_)
 all_goals (first|refine aI ?_|(refine dZ 38 (λ g38=>?_) (λ g38=>?_)<;>(first|refine aI ?_|(refine aF ?_;refine aE ?_))))
 all_goals (refine Au ?_;refine vA ?_;refine aA ?_)
 all_goals (first|refine aI ?_|(refine dZ 45 (λ g45=>?_) (λ g45=>?_)<;>(first|refine aI ?_|(refine aF ?_;refine aE ?_))))
 all_goals (refine Au ?_;(first|refine aI ?_|(refine aF ?_;refine uy ?_));refine cA ?_;refine aA ?_)
 all_goals (first|refine aI ?_|(refine dZ 52 (λ g52=>?_) (λ g52=>?_)<;>(first|refine aI ?_|(refine aF ?_;refine aE ?_))))
 all_goals (refine Au ?_;refine vA ?_;refine aA ?_)
 all_goals (first|refine aI ?_|(refine dZ 59 (λ g59=>?_) (λ g59=>?_)<;>(first|refine aI ?_|(refine aF ?_;refine aE ?_))))
 all_goals (refine Au ?_;(first|refine aI ?_|(refine aF ?_;refine aT (cV (hc:=λ w1 hw=>by simp only[e3,e4];exact aAb (ha.pr.fZ hw.st) (hb.pr.fZ hw.st) ha.prS)) (λ x64=>?_)));refine cA ?_;refine aA ?_)
 all_goals (first|refine aI ?_|(refine dZ 66 (λ g66=>?_) (λ g66=>?_)<;>(first|refine aI ?_|(refine aF ?_;refine aE ?_))))
 all_goals (refine Au ?_;refine vA ?_;refine aA ?_)
 all_goals (first|refine aI ?_|(refine dZ 73 (λ g73=>?_) (λ g73=>?_)<;>(first|refine aI ?_|(refine aF ?_;refine aE ?_))))
 all_goals (refine Au ?_;refine vA ?_;refine aA ?_)
 all_goals (first|refine aI ?_|(refine dZ 80 (λ g80=>?_) (λ g80=>?_)<;>(first|refine aI ?_|(refine aF ?_;refine aE ?_))))
 all_goals (refine Au ?_;refine vA ?_;refine aA ?_)
 all_goals (first|refine aI ?_|(refine dZ 87 (λ g87=>?_) (λ g87=>?_)<;>(first|refine aI ?_|(refine aF ?_;refine aE ?_))))
 all_goals (refine Au ?_;refine vA ?_;refine aA ?_)
 all_goals (first|refine aI ?_|(refine dZ 94 (λ g94=>?_) (λ g94=>?_)<;>(first|refine aI ?_|(refine aF ?_;refine aE ?_))))
 all_goals (refine Au ?_;refine vA ?_;refine J1 ?_)
 all_goals
 refine aS Tryz.results196 (λ w hw=>?_)
 exact⟨_,rfl,by simp_all[rL],hw.done⟩
theorem Rv(a:Nd)(w:World):Calls Tryz.prog 80 #[a.v] w λ e w'=>∃r:Bool,e=.returned (.bool r)/\(r=true↔(a.kind=3∨a.kind=5∨a.kind=6))/\St w [] [] w':=by
 refine enter Tryz.func80 Tryz.ntmps80 rfl rfl (SF.s0 w) ?_
 simp only[bX]
 refine J0 ?_;refine bK (λ x1=>?_);refine hZ ?_;refine hX ?_;refine aH ?_;refine cP ?_;refine aV ?_;refine lQ ?_
 refine bB (λ c5=>?_) (λ c5=>?_)
 ·refine bA ?_
  refine bB (λ c5=>?_) (λ c5=>?_)
  ·refine cO ?_
   refine aS Tryz.results80 (λ w hw=>?_)
   exact⟨_,rfl,by simp_all,hw.done⟩
  ·refine nT ?_;refine cO ?_
   refine aS Tryz.results80 (λ w hw=>?_)
   exact⟨_,rfl,by simp_all,hw.done⟩
 ·refine lQ ?_
  refine bB (λ c5=>?_) (λ c5=>?_)
  ·refine bA ?_
   refine bB (λ c5=>?_) (λ c5=>?_)
   ·refine cO ?_
    refine aS Tryz.results80 (λ w hw=>?_)
    exact⟨_,rfl,by simp_all,hw.done⟩
   ·refine nT ?_;refine cO ?_
    refine aS Tryz.results80 (λ w hw=>?_)
    exact⟨_,rfl,by simp_all,hw.done⟩
  ·refine dJ ?_;refine Rg ?_
   refine bB (λ c5=>?_) (λ c5=>?_)
   ·refine cO ?_
    refine aS Tryz.results80 (λ w hw=>?_)
    exact⟨_,rfl,by simp_all,hw.done⟩
   ·refine nT ?_;refine cO ?_
    refine aS Tryz.results80 (λ w hw=>?_)
    exact⟨_,rfl,by simp_all,hw.done⟩
theorem xF(a:Nd)(w:World):Calls Tryz.prog 41 #[a.v] w λ e w'=>∃r:Bool,e=.returned (.bool r)/\(r=true↔(a.kind=3∨a.kind=5∨a.kind=6))/\St w [] [] w':=by
 refine enter Tryz.func41 Tryz.ntmps41 rfl rfl (SF.s0 w) ?_
 simp only[bX]
 refine J0 ?_;refine bK (λ x1=>?_);refine J1 ?_;refine hX ?_;refine mK ?_;refine aA ?_
 (refine dZ 6 (λ g6=>?_) (λ g6=>?_)<;>(first|refine aI ?_|(refine aF ?_;refine aE ?_)))
 all_goals (refine zr ?_;refine aA ?_)
 all_goals (first|refine aI ?_|(refine dZ 11 (λ g11=>?_) (λ g11=>?_)<;>(first|refine aI ?_|(refine aF ?_;refine aE ?_))))
 all_goals (refine zr ?_;refine J1 ?_)
 all_goals
 refine aS Tryz.results41 (λ w hw=>?_)
 exact⟨_,rfl,by simp_all,hw.done⟩
end

/- Loops over slices that are read: contracts, the second part. -/
section
open Go.RowKit Go.Ct
theorem Rp{xs:List Int}{a:Option Addr}{ca:Nat}{w:World}(ha:Cl w a (aG xs))(hx:xs.length<4611686018427387904) :
  Calls Tryz.prog 199 #[.slice a xs.length ca] w λ e w'=>∃r:Bool,e=.returned (.bool r)/\(r=true↔Pos xs)/\St w [] [] w':=by
 refine enter Tryz.func199 Tryz.ntmps199 rfl rfl (SF.s1 ha) ?_
 simp only[bX]
 refine cO ?_;refine jV ?_;refine dA ?_;refine D7 ?_;refine cP ?_
 refine fV [2,4,7,8,9,10,11,12,13] (λ k=>[(7,.int .i64 ((k:Nat):Int))]) (λ k=>k<=xs.length/\∀i,i<k->1<=xs.getD i 0) (λ k=>xs.length-k) (0) (⟨Nat.zero_le _,λ i hi=>absurd hi (Nat.not_lt_zero i)⟩) ?_ (λ k f hx=>?_)
 ·repeat (first|exact bD _|refine aW (by exact rfl) ?_)
 dsimp only[gX,List.map,List.cons_append,List.nil_append]
 refine J0 ?_;refine wT ?_;refine aV ?_
 refine bB (λ c8=>?_) (λ c8=>?_)
 ·refine qB ?_;refine J0 ?_;refine Rf ?_;refine J1 ?_;refine J2 ?_;refine wT ?_
  refine bB (λ c12=>?_) (λ c12=>?_)
  ·refine cO ?_
   refine aS Tryz.results199 (λ w hw=>?_)
   exact⟨_,rfl,by simp only[Bool.false_eq_true,false_iff];intro h;have:=h k (by omega);omega,hw.done⟩
  ·refine nT ?_;refine Xp ?_;refine D7 ?_
   refine eI (k+1) ?_ ?_ ?_
   ·omega
   ·repeat' (first|exact bD _|refine aW ?_ ?_)
    exact rfl
   ·exact⟨by omega,λ i hi=>by rcases Nat.lt_succ_iff_lt_or_eq.1 hi with h|rfl;exact hx.2 i h;omega⟩
 ·refine bM rfl ?_;refine cO ?_
  refine aS Tryz.results199 (λ w hw=>?_)
  exact⟨_,rfl,by simp only[true_iff];intro i hi;exact hx.2 i (by omega),hw.done⟩
theorem Ql{l:List Pr}{a:Option Addr}{ca:Nat}{w:World}(ha:Cl w a (cR l))(hx:l.length<4611686018427387904) :
  Calls Tryz.prog 200 #[.slice a l.length ca] w λ e w'=>∃r:Bool,e=.returned (.bool r)/\(r=true↔F2 l)/\St w [] [] w':=by
 refine enter Tryz.func200 Tryz.ntmps200 rfl rfl (SF.s1 ha) ?_
 simp only[bX]
 refine cO ?_;refine jV ?_;refine dA ?_;refine D7 ?_;refine cP ?_
 refine fV [2,4,7,8,9,10,11,12,13,14,15] (λ k=>[(7,.int .i64 ((k:Nat):Int))]) (λ k=>k<=l.length/\∀i,i<k->(l.getD i (⟨#[]⟩,0)).1.size<=64) (λ k=>l.length-k) (0) (⟨Nat.zero_le _,λ i hi=>absurd hi (Nat.not_lt_zero i)⟩) ?_ (λ k f hx=>?_)
 ·repeat (first|exact bD _|refine aW (by exact rfl) ?_)
 dsimp only[gX,List.map,List.cons_append,List.nil_append]
 refine J0 ?_;refine wT ?_;refine aV ?_
 refine bB (λ c8=>?_) (λ c8=>?_)
 ·refine qB ?_;refine J0 ?_;refine Rf ?_;refine aJ (λ x4=>?_);refine J5 ?_;refine hX ?_;refine mD ?_;refine Cx ?_;refine aH ?_
  refine bB (λ c14=>?_) (λ c14=>?_)
  ·refine cO ?_
   refine aS Tryz.results200 (λ w hw=>?_)
   exact⟨_,rfl,by simp only[Bool.false_eq_true,false_iff];intro h;have:=h k (by omega);omega,hw.done⟩
  ·refine nT ?_;refine Xp ?_;refine D7 ?_
   refine eI (k+1) ?_ ?_ ?_
   ·omega
   ·repeat' (first|exact bD _|refine aW ?_ ?_)
    exact rfl
   ·exact⟨by omega,λ i hi=>by rcases Nat.lt_succ_iff_lt_or_eq.1 hi with h|rfl;exact hx.2 i h;omega⟩
 ·refine bM rfl ?_;refine cO ?_
  refine aS Tryz.results200 (λ w hw=>?_)
  exact⟨_,rfl,by simp only[true_iff];intro i hi;exact hx.2 i (by omega),hw.done⟩
theorem Zn{l:List Pr}{a:Option Addr}{ca:Nat}{w:World}(ha:Cl w a (cR l))(hx:l.length<4611686018427387904) :
  Calls Tryz.prog 171 #[.slice a l.length ca] w λ e w'=>∃r:Bool,e=.returned (.bool r)/\(r=true↔F2 l)/\St w [] [] w':=by
 refine enter Tryz.func171 Tryz.ntmps171 rfl rfl (SF.s1 ha) ?_
 simp only[bX]
 refine Fu ?_;refine Dd ?_
 refine fV [2,3,4,5,6,7,8,9,10,11,12,13,14,15,16] (λ k=>[(3,.int .i64 ((k:Nat):Int))]) (λ k=>k<=l.length/\∀i,i<k->(l.getD i (⟨#[]⟩,0)).1.size<=64) (λ k=>l.length-k) (0) (⟨Nat.zero_le _,λ i hi=>absurd hi (Nat.not_lt_zero i)⟩) ?_ (λ k f hx=>?_)
 ·repeat (first|exact bD _|refine aW (by exact rfl) ?_)
 dsimp only[gX,List.map,List.cons_append,List.nil_append]
 refine Cz ?_;refine dA ?_;refine wT ?_
 refine bB (λ c7=>?_) (λ c7=>?_)
 ·refine qB ?_;refine iU ?_;refine gN ?_;refine J3 ?_;refine mD ?_;refine Cx ?_;refine aH ?_
  refine bB (λ c16=>?_) (λ c16=>?_)
  ·refine cO ?_
   refine aS Tryz.results171 (λ w hw=>?_)
   exact⟨_,rfl,by simp only[Bool.false_eq_true,false_iff];intro h;have:=h k (by omega);omega,hw.done⟩
  ·refine nT ?_;refine uJ ?_
   refine eI (k+1) ?_ ?_ ?_
   ·omega
   ·repeat' (first|exact bD _|refine aW ?_ ?_)
    exact rfl
   ·exact⟨by omega,λ i hi=>by rcases Nat.lt_succ_iff_lt_or_eq.1 hi with h|rfl;exact hx.2 i h;omega⟩
 ·refine bM rfl ?_;refine cO ?_
  refine aS Tryz.results171 (λ w hw=>?_)
  exact⟨_,rfl,by simp only[true_iff];intro i hi;exact hx.2 i (by omega),hw.done⟩
theorem Y6{l:List Pr}{a:Option Addr}{ca:Nat}{w:World}(ha:Cl w a (cR l))(hx:l.length<4611686018427387904) :
  Calls Tryz.prog 193 #[.slice a l.length ca] w λ e w'=>∃r:Bool,e=.returned (.bool r)/\(r=true↔uc l)/\St w [] [] w':=by
 refine enter Tryz.func193 Tryz.ntmps193 rfl rfl (SF.s1 ha) ?_
 simp only[bX]
 refine Fu ?_;refine Dd ?_
 refine fV [2,3,4,5,6,7,8,9,10,11,12,13,14,15,16,17,18,19,20,21] (λ k=>[(3,.int .i64 ((k:Nat):Int))]) (λ k=>1<=k/\k<=l.length+1/\∀i,1<=i->i<k->dF (l.getD (i-1) (⟨#[]⟩,0)).1 (l.getD i (⟨#[]⟩,0)).1=true) (λ k=>l.length-k) (1) (⟨Nat.le_refl _,by omega,λ i h1 hi=>by omega⟩) ?_ (λ k f hx=>?_)
 ·repeat (first|exact bD _|refine aW (by exact rfl) ?_)
 dsimp only[gX,List.map,List.cons_append,List.nil_append]
 refine Cz ?_;refine dA ?_;refine wT ?_
 refine bB (λ c7=>?_) (λ c7=>?_)
 ·refine qB ?_;refine aV ?_;refine gF [0,1,2,3,4,5,6,7,8,9,10,11] ?_;refine iH ?_;refine P3 ?_;refine iR ?_;refine kJ ?_;refine iH ?_;refine iR ?_;refine kJ ?_;refine Z4 ?_;refine dW ?_
  refine bB (λ c21=>?_) (λ c21=>?_)
  ·refine cO ?_
   refine aS Tryz.results193 (λ w hw=>?_)
   exact⟨_,rfl,by simp only[Bool.false_eq_true,false_iff];intro h;have:=h k (by omega) (by omega);rw[c21] at this;exact Bool.noConfusion this,hw.done⟩
  ·refine nT ?_;refine uJ ?_
   refine eI (k+1) ?_ ?_ ?_
   ·omega
   ·repeat' (first|exact bD _|refine aW ?_ ?_)
    exact rfl
   ·exact⟨by omega,by omega,λ i h1 hi=>by rcases Nat.lt_succ_iff_lt_or_eq.1 hi with h|rfl;exact hx.2.2 i h1 h;exact c21⟩
 ·refine bM rfl ?_;refine cO ?_
  refine aS Tryz.results193 (λ w hw=>?_)
  exact⟨_,rfl,by simp only[true_iff];intro i h1 hi;exact hx.2.2 i h1 (by omega),hw.done⟩
theorem mG{l:List Pr}{a:Option Addr}{ca:Nat}{w:World}(ha:Cl w a (cR l))(hx:l.length<4611686018427387904) :
  Calls Tryz.prog 109 #[.slice a l.length ca] w λ e w'=>∃r:Bool,e=.returned (.bool r)/\(r=true↔uc l)/\St w [] [] w':=by
 refine enter Tryz.func109 Tryz.ntmps109 rfl rfl (SF.s1 ha) ?_
 simp only[bX]
 refine Fu ?_;refine Dd ?_
 refine fV [2,3,4,5,6,7,8,9,10,11,12,13,14,15,16,17,18,19,20,21] (λ k=>[(3,.int .i64 ((k:Nat):Int))]) (λ k=>1<=k/\k<=l.length+1/\∀i,1<=i->i<k->dF (l.getD (i-1) (⟨#[]⟩,0)).1 (l.getD i (⟨#[]⟩,0)).1=true) (λ k=>l.length-k) (1) (⟨Nat.le_refl _,by omega,λ i h1 hi=>by omega⟩) ?_ (λ k f hx=>?_)
 ·repeat (first|exact bD _|refine aW (by exact rfl) ?_)
 dsimp only[gX,List.map,List.cons_append,List.nil_append]
 refine Cz ?_;refine dA ?_;refine wT ?_
 refine bB (λ c7=>?_) (λ c7=>?_)
 ·refine qB ?_;refine aV ?_;refine gF [0,1,2,3,4,5,6,7,8,9,10,11] ?_;refine iH ?_;refine iR ?_;refine kJ ?_;refine iH ?_;refine P3 ?_;refine iR ?_;refine kJ ?_;refine j8 ?_;refine dW ?_
  refine bB (λ c21=>?_) (λ c21=>?_)
  ·refine cO ?_
   refine aS Tryz.results109 (λ w hw=>?_)
   exact⟨_,rfl,by simp only[Bool.false_eq_true,false_iff];intro h;have:=h k (by omega) (by omega);rw[aA0 c21] at this;exact Bool.noConfusion this,hw.done⟩
  ·refine nT ?_;refine uJ ?_
   refine eI (k+1) ?_ ?_ ?_
   ·omega
   ·repeat' (first|exact bD _|refine aW ?_ ?_)
    exact rfl
   ·exact⟨by omega,by omega,λ i h1 hi=>by rcases Nat.lt_succ_iff_lt_or_eq.1 hi with h|rfl;exact hx.2.2 i h1 h;exact aBH c21⟩
 ·refine bM rfl ?_;refine cO ?_
  refine aS Tryz.results109 (λ w hw=>?_)
  exact⟨_,rfl,by simp only[true_iff];intro i h1 hi;exact hx.2.2 i h1 (by omega),hw.done⟩
end

end Go.Proofs.YtbajmaoegmbfgaaGreat
