/- Nodes are compared. -/
import Derived.Test.YtbajmaoegmbfgaaGreatGAr2

set_option linter.unusedSimpArgs false
set_option linter.unusedVariables false
namespace Go.Proofs.YtbajmaoegmbfgaaGreat
section
open Go.RowKit Go.Ct
theorem rv{a b:Nd}{x1 x2:List Int}{y1 y2:List Pr}{w:World}(ha:sB w a x1 y1)(hb:sB w b x2 y2) :
  Calls Tryz.prog 113 #[a.v,b.v] w λ e w'=>∃r:Bool,e=.returned (.bool r)/\(r=true↔rO a b x1 x2 y1 y2)/\St w [] [] w':=by
 have e1:=ha.brN;have e2:=hb.brN;have e3:=ha.prN;have e4:=hb.prN
 refine enter Tryz.func113 Tryz.ntmps113 rfl rfl (SF.s0 w) ?_
 simp only[cD]
 refine J0 ?_;refine bO (λ x2=>?_);refine bO (λ x3=>?_);refine iW ?_;refine gP ?_;refine J3 ?_;refine mH ?_;refine aA ?_
 (refine eC 10 (λ g10=>?_) (λ g10=>?_)<;>refine Ka1 ?_)
 all_goals (refine A3 ?_;refine R9 ?_;refine aA ?_)
 all_goals (first|refine aI ?_|(refine eC 17 (λ g17=>?_) (λ g17=>?_)<;>refine Ka1 ?_))
 all_goals (refine A3 ?_;refine R9 ?_;refine aA ?_)
 all_goals (first|refine aI ?_|(refine eC 24 (λ g24=>?_) (λ g24=>?_)<;>refine Ka1 ?_))
 all_goals (refine A3 ?_;refine R9 ?_;refine aA ?_)
 all_goals (first|refine aI ?_|(refine eC 31 (λ g31=>?_) (λ g31=>?_)<;>refine Ka1 ?_))
 all_goals (refine A3 ?_;refine R9 ?_;refine aA ?_)
 all_goals (first|refine aI ?_|(refine eC 38 (λ g38=>?_) (λ g38=>?_)<;>refine Ka1 ?_))
 all_goals (refine A3 ?_;(first|refine aI ?_|(refine aF ?_;refine sf ?_));refine Ka6 ?_)
 all_goals (first|refine aI ?_|(refine eC 45 (λ g45=>?_) (λ g45=>?_)<;>refine Ka1 ?_))
 all_goals (refine A3 ?_;refine R9 ?_;refine aG ?_)
 all_goals
 refine bC (λ c51=>?_) (λ c51=>?_)
 ·all_goals refine cU ?_
  all_goals
   refine aN Tryz.results113 (λ w hw=>?_)
   exact⟨_,rfl,by simp_all[rO],hw.done⟩
 ·try exact nv c51
  all_goals (refine aV ?_;refine gP ?_;refine J3 ?_;refine aM (cV (hc:=λ w1 hw=>by simp only[e1,e2];exact wg (ha.br.fO hw.st) (hb.br.fO hw.st) ha.brS)) (λ x56=>?_);refine aA ?_)
  all_goals ((refine eC 57 (λ g57=>?_) (λ g57=>?_)<;>refine Ka1 ?_))
  all_goals (refine A3 ?_;(first|refine aI ?_|(refine aF ?_;refine aM (cV (hc:=λ w1 hw=>by simp only[e3,e4];exact aBu (ha.pr.fO hw.st) (hb.pr.fO hw.st) ha.prS)) (λ x62=>?_)));refine Ka6 ?_)
  all_goals (first|refine aI ?_|(refine eC 64 (λ g64=>?_) (λ g64=>?_)<;>refine Ka1 ?_))
  all_goals (refine Kc0 ?_)
  all_goals (first|refine aI ?_|(refine eC 71 (λ g71=>?_) (λ g71=>?_)<;>refine Ka1 ?_))
  all_goals (refine Kc0 ?_)
  all_goals (first|refine aI ?_|(refine eC 78 (λ g78=>?_) (λ g78=>?_)<;>refine Ka1 ?_))
  all_goals (refine Kc0 ?_)
  all_goals (first|refine aI ?_|(refine eC 85 (λ g85=>?_) (λ g85=>?_)<;>refine Ka1 ?_))
  all_goals (refine Kc0 ?_)
  all_goals (first|refine aI ?_|(refine eC 92 (λ g92=>?_) (λ g92=>?_)<;>refine Ka1 ?_))
  all_goals (refine A3 ?_;refine uT ?_;refine J1 ?_)
  all_goals
   refine aN Tryz.results113 (λ w hw=>?_)
   exact⟨_,rfl,by simp_all[rO],hw.done⟩
theorem yb{a b:Nd}{x1 x2:List Int}{y1 y2:List Pr}{w:World}(ha:sB w a x1 y1)(hb:sB w b x2 y2) :
  Calls Tryz.prog 196 #[a.v,b.v] w λ e w'=>∃r:Bool,e=.returned (.bool r)/\(r=true↔rO a b x1 x2 y1 y2)/\St w [] [] w':=by
 have e1:=ha.brN;have e2:=hb.brN;have e3:=ha.prN;have e4:=hb.prN
 refine enter Tryz.func196 Tryz.ntmps196 rfl rfl (SF.s0 w) ?_
 simp only[cD]
 refine J0 ?_;refine bO (λ x2=>?_);refine bO (λ x3=>?_);refine iW ?_;refine Vq (by dsimp only[List.append]) ?_;refine J3 ?_;refine J3 ?_;refine kE ?_;refine aA ?_
 (refine eC 10 (λ g10=>?_) (λ g10=>?_)<;>refine Ka1 ?_)
 all_goals (refine Kc0 ?_)
 all_goals (first|refine aI ?_|(refine eC 17 (λ g17=>?_) (λ g17=>?_)<;>refine Ka1 ?_))
 all_goals (refine Kc0 ?_)
 all_goals (first|refine aI ?_|(refine eC 24 (λ g24=>?_) (λ g24=>?_)<;>refine Ka1 ?_))
 all_goals (refine Kc0 ?_)
 all_goals (first|refine aI ?_|(refine eC 31 (λ g31=>?_) (λ g31=>?_)<;>refine Ka1 ?_))
 all_goals (refine A3 ?_;(first|refine aI ?_|(refine aF ?_;refine aM (cV (hc:=λ w1 hw=>by simp only[e1,e2];exact oh (ha.br.fO hw.st) (hb.br.fO hw.st) ha.brS)) (λ x36=>?_)));refine Ka6 ?_)
 all_goals (first|refine aI ?_|(refine eC 38 (λ g38=>?_) (λ g38=>?_)<;>refine Ka1 ?_))
 all_goals (refine Kc0 ?_)
 all_goals (first|refine aI ?_|(refine eC 45 (λ g45=>?_) (λ g45=>?_)<;>refine Ka1 ?_))
 all_goals (refine A3 ?_;(first|refine aI ?_|(refine aF ?_;refine sj ?_));refine Ka6 ?_)
 all_goals (first|refine aI ?_|(refine eC 52 (λ g52=>?_) (λ g52=>?_)<;>refine Ka1 ?_))
 all_goals (refine Kc0 ?_)
 all_goals (first|refine aI ?_|(refine eC 59 (λ g59=>?_) (λ g59=>?_)<;>refine Ka1 ?_))
 all_goals (refine A3 ?_;(first|refine aI ?_|(refine aF ?_;refine aM (cV (hc:=λ w1 hw=>by simp only[e3,e4];exact vv (ha.pr.fO hw.st) (hb.pr.fO hw.st) ha.prS)) (λ x64=>?_)));refine Ka6 ?_)
 all_goals (first|refine aI ?_|(refine eC 66 (λ g66=>?_) (λ g66=>?_)<;>refine Ka1 ?_))
 all_goals (refine Kc0 ?_)
 all_goals (first|refine aI ?_|(refine eC 73 (λ g73=>?_) (λ g73=>?_)<;>refine Ka1 ?_))
 all_goals (refine Kc0 ?_)
 all_goals (first|refine aI ?_|(refine eC 80 (λ g80=>?_) (λ g80=>?_)<;>refine Ka1 ?_))
 all_goals (refine Kc0 ?_)
 all_goals (first|refine aI ?_|(refine eC 87 (λ g87=>?_) (λ g87=>?_)<;>refine Ka1 ?_))
 all_goals (refine Kc0 ?_)
 all_goals (first|refine aI ?_|(refine eC 94 (λ g94=>?_) (λ g94=>?_)<;>refine Ka1 ?_))
 all_goals (refine A3 ?_;refine uT ?_;refine J1 ?_)
 all_goals
 refine aN Tryz.results196 (λ w hw=>?_)
 exact⟨_,rfl,by simp_all[rO],hw.done⟩
theorem Qj(a:Nd)(w:World):Calls Tryz.prog 80 #[a.v] w λ e w'=>∃r:Bool,e=.returned (.bool r)/\(r=true↔(a.kind=3∨a.kind=5∨a.kind=6))/\St w [] [] w':=by
 refine enter Tryz.func80 Tryz.ntmps80 rfl rfl (SF.s0 w) ?_
 simp only[cD]
 refine J0 ?_;refine bO (λ x1=>?_);refine iW ?_;refine gP ?_;refine aG ?_;refine cY ?_;refine aR ?_;refine lK ?_
 refine bC (λ c5=>?_) (λ c5=>?_)
 ·refine aV ?_
  refine bC (λ c5=>?_) (λ c5=>?_)
  ·refine cU ?_
   refine aN Tryz.results80 (λ w hw=>?_)
   exact⟨_,rfl,by simp_all,hw.done⟩
  ·refine Ka8 ?_
   refine aN Tryz.results80 (λ w hw=>?_)
   exact⟨_,rfl,by simp_all,hw.done⟩
 ·refine lK ?_
  refine bC (λ c5=>?_) (λ c5=>?_)
  ·refine aV ?_
   refine bC (λ c5=>?_) (λ c5=>?_)
   ·refine cU ?_
    refine aN Tryz.results80 (λ w hw=>?_)
    exact⟨_,rfl,by simp_all,hw.done⟩
   ·refine Ka8 ?_
    refine aN Tryz.results80 (λ w hw=>?_)
    exact⟨_,rfl,by simp_all,hw.done⟩
  ·refine dH ?_;refine Qc ?_
   refine bC (λ c5=>?_) (λ c5=>?_)
   ·refine cU ?_
    refine aN Tryz.results80 (λ w hw=>?_)
    exact⟨_,rfl,by simp_all,hw.done⟩
   ·refine Ka8 ?_
    refine aN Tryz.results80 (λ w hw=>?_)
    exact⟨_,rfl,by simp_all,hw.done⟩
theorem xJ(a:Nd)(w:World):Calls Tryz.prog 41 #[a.v] w λ e w'=>∃r:Bool,e=.returned (.bool r)/\(r=true↔(a.kind=3∨a.kind=5∨a.kind=6))/\St w [] [] w':=by
 refine enter Tryz.func41 Tryz.ntmps41 rfl rfl (SF.s0 w) ?_
 simp only[cD]
 refine J0 ?_;refine bO (λ x1=>?_);refine J1 ?_;refine gP ?_;refine kE ?_;refine aA ?_
 (refine eC 6 (λ g6=>?_) (λ g6=>?_)<;>refine Ka1 ?_)
 all_goals (refine vy ?_;refine aA ?_)
 all_goals (first|refine aI ?_|(refine eC 11 (λ g11=>?_) (λ g11=>?_)<;>refine Ka1 ?_))
 all_goals (refine vy ?_;refine J1 ?_)
 all_goals
 refine aN Tryz.results41 (λ w hw=>?_)
 exact⟨_,rfl,by simp_all,hw.done⟩
end

/- Loops over slices that are read: contracts, the second part. -/
section
open Go.RowKit Go.Ct
theorem Sn{xs:List Int}{a:Option Addr}{ca:Nat}{w:World}(ha:Cl w a (aH xs))(hx:xs.length<4611686018427387904) :
  Calls Tryz.prog 199 #[.slice a xs.length ca] w λ e w'=>∃r:Bool,e=.returned (.bool r)/\(r=true↔Pos xs)/\St w [] [] w':=by
 refine enter Tryz.func199 Tryz.ntmps199 rfl rfl (SF.s1 ha) ?_
 simp only[cD]
 refine Kb2 ?_;refine dY ?_;refine Lw ?_;refine cY ?_
 refine gI [2,4,7,8,9,10,11,12,13] (λ k=>[(7,.int .i64 ((k:Nat):Int))]) (λ k=>k<=xs.length/\∀i,i<k->1<=xs.getD i 0) (λ k=>xs.length-k) (0) (⟨Nat.zero_le _,λ i hi=>absurd hi (Nat.not_lt_zero i)⟩) ?_ (λ k f hx=>?_)
 ·repeat (first|exact bQ _|refine bI (by exact rfl) ?_)
 dsimp only[gZ,List.map,List.cons_append,List.nil_append]
 refine J0 ?_;refine C5 ?_;refine aR ?_
 refine bC (λ c8=>?_) (λ c8=>?_)
 ·refine tB ?_;refine J0 ?_;refine P9 ?_;refine Ka4 ?_;refine C5 ?_
  refine bC (λ c12=>?_) (λ c12=>?_)
  ·refine cU ?_
   refine aN Tryz.results199 (λ w hw=>?_)
   exact⟨_,rfl,by simp only[Bool.false_eq_true,false_iff];intro h;have:=h k (by omega);omega,hw.done⟩
  ·refine pE ?_;refine ki ?_;refine Lw ?_
   refine fA (k+1) ?_ ?_ ?_
   ·omega
   ·repeat' (first|exact bQ _|refine bI ?_ ?_)
    exact rfl
   ·exact⟨by omega,λ i hi=>by rcases Nat.lt_succ_iff_lt_or_eq.1 hi with h|rfl;exact hx.2 i h;omega⟩
 ·refine bS rfl ?_;refine cU ?_
  refine aN Tryz.results199 (λ w hw=>?_)
  exact⟨_,rfl,by simp only[true_iff];intro i hi;exact hx.2 i (by omega),hw.done⟩
theorem O7{l:List Pr}{a:Option Addr}{ca:Nat}{w:World}(ha:Cl w a (dD l))(hx:l.length<4611686018427387904) :
  Calls Tryz.prog 200 #[.slice a l.length ca] w λ e w'=>∃r:Bool,e=.returned (.bool r)/\(r=true↔E4 l)/\St w [] [] w':=by
 refine enter Tryz.func200 Tryz.ntmps200 rfl rfl (SF.s1 ha) ?_
 simp only[cD]
 refine Kb2 ?_;refine dY ?_;refine Lw ?_;refine cY ?_
 refine gI [2,4,7,8,9,10,11,12,13,14,15] (λ k=>[(7,.int .i64 ((k:Nat):Int))]) (λ k=>k<=l.length/\∀i,i<k->(l.getD i (⟨#[]⟩,0)).1.size<=64) (λ k=>l.length-k) (0) (⟨Nat.zero_le _,λ i hi=>absurd hi (Nat.not_lt_zero i)⟩) ?_ (λ k f hx=>?_)
 ·repeat (first|exact bQ _|refine bI (by exact rfl) ?_)
 dsimp only[gZ,List.map,List.cons_append,List.nil_append]
 refine J0 ?_;refine C5 ?_;refine aR ?_
 refine bC (λ c8=>?_) (λ c8=>?_)
 ·refine tB ?_;refine J0 ?_;refine P9 ?_;refine aJ (λ x4=>?_);refine J5 ?_;refine gP ?_;refine lQ ?_;refine Cp ?_;refine aG ?_
  refine bC (λ c14=>?_) (λ c14=>?_)
  ·refine cU ?_
   refine aN Tryz.results200 (λ w hw=>?_)
   exact⟨_,rfl,by simp only[Bool.false_eq_true,false_iff];intro h;have:=h k (by omega);omega,hw.done⟩
  ·refine pE ?_;refine ki ?_;refine Lw ?_
   refine fA (k+1) ?_ ?_ ?_
   ·omega
   ·repeat' (first|exact bQ _|refine bI ?_ ?_)
    exact rfl
   ·exact⟨by omega,λ i hi=>by rcases Nat.lt_succ_iff_lt_or_eq.1 hi with h|rfl;exact hx.2 i h;omega⟩
 ·refine bS rfl ?_;refine cU ?_
  refine aN Tryz.results200 (λ w hw=>?_)
  exact⟨_,rfl,by simp only[true_iff];intro i hi;exact hx.2 i (by omega),hw.done⟩
theorem ao{l:List Pr}{a:Option Addr}{ca:Nat}{w:World}(ha:Cl w a (dD l))(hx:l.length<4611686018427387904) :
  Calls Tryz.prog 171 #[.slice a l.length ca] w λ e w'=>∃r:Bool,e=.returned (.bool r)/\(r=true↔E4 l)/\St w [] [] w':=by
 refine enter Tryz.func171 Tryz.ntmps171 rfl rfl (SF.s1 ha) ?_
 simp only[cD]
 refine Hu ?_;refine Ht ?_
 refine gI [2,3,4,5,6,7,8,9,10,11,12,13,14,15,16] (λ k=>[(3,.int .i64 ((k:Nat):Int))]) (λ k=>k<=l.length/\∀i,i<k->(l.getD i (⟨#[]⟩,0)).1.size<=64) (λ k=>l.length-k) (0) (⟨Nat.zero_le _,λ i hi=>absurd hi (Nat.not_lt_zero i)⟩) ?_ (λ k f hx=>?_)
 ·repeat (first|exact bQ _|refine bI (by exact rfl) ?_)
 dsimp only[gZ,List.map,List.cons_append,List.nil_append]
 refine Cm ?_;refine dY ?_;refine C5 ?_
 refine bC (λ c7=>?_) (λ c7=>?_)
 ·refine tB ?_;refine iX ?_;refine fS ?_;refine J3 ?_;refine lQ ?_;refine Cp ?_;refine aG ?_
  refine bC (λ c16=>?_) (λ c16=>?_)
  ·refine cU ?_
   refine aN Tryz.results171 (λ w hw=>?_)
   exact⟨_,rfl,by simp only[Bool.false_eq_true,false_iff];intro h;have:=h k (by omega);omega,hw.done⟩
  ·refine Kc6 ?_
   refine fA (k+1) ?_ ?_ ?_
   ·omega
   ·repeat' (first|exact bQ _|refine bI ?_ ?_)
    exact rfl
   ·exact⟨by omega,λ i hi=>by rcases Nat.lt_succ_iff_lt_or_eq.1 hi with h|rfl;exact hx.2 i h;omega⟩
 ·refine bS rfl ?_;refine cU ?_
  refine aN Tryz.results171 (λ w hw=>?_)
  exact⟨_,rfl,by simp only[true_iff];intro i hi;exact hx.2 i (by omega),hw.done⟩
theorem Xc{l:List Pr}{a:Option Addr}{ca:Nat}{w:World}(ha:Cl w a (dD l))(hx:l.length<4611686018427387904) :
  Calls Tryz.prog 193 #[.slice a l.length ca] w λ e w'=>∃r:Bool,e=.returned (.bool r)/\(r=true↔tu l)/\St w [] [] w':=by
 refine enter Tryz.func193 Tryz.ntmps193 rfl rfl (SF.s1 ha) ?_
 simp only[cD]
 refine Hu ?_;refine Ht ?_
 refine gI [2,3,4,5,6,7,8,9,10,11,12,13,14,15,16,17,18,19,20,21] (λ k=>[(3,.int .i64 ((k:Nat):Int))]) (λ k=>1<=k/\k<=l.length+1/\∀i,1<=i->i<k->dK (l.getD (i-1) (⟨#[]⟩,0)).1 (l.getD i (⟨#[]⟩,0)).1=true) (λ k=>l.length-k) (1) (⟨Nat.le_refl _,by omega,λ i h1 hi=>by omega⟩) ?_ (λ k f hx=>?_)
 ·repeat (first|exact bQ _|refine bI (by exact rfl) ?_)
 dsimp only[gZ,List.map,List.cons_append,List.nil_append]
 refine Cm ?_;refine dY ?_;refine C5 ?_
 refine bC (λ c7=>?_) (λ c7=>?_)
 ·refine tB ?_;refine aR ?_;refine gE [0,1,2,3,4,5,6,7,8,9,10,11] ?_;refine gU ?_;refine O3 ?_;refine iI ?_;refine oW ?_;refine gU ?_;refine iI ?_;refine oW ?_;refine du ?_;refine eK ?_
  refine bC (λ c21=>?_) (λ c21=>?_)
  ·refine cU ?_
   refine aN Tryz.results193 (λ w hw=>?_)
   exact⟨_,rfl,by simp only[Bool.false_eq_true,false_iff];intro h;have:=h k (by omega) (by omega);rw[c21] at this;exact Bool.noConfusion this,hw.done⟩
  ·refine Kc6 ?_
   refine fA (k+1) ?_ ?_ ?_
   ·omega
   ·repeat' (first|exact bQ _|refine bI ?_ ?_)
    exact rfl
   ·exact⟨by omega,by omega,λ i h1 hi=>by rcases Nat.lt_succ_iff_lt_or_eq.1 hi with h|rfl;exact hx.2.2 i h1 h;exact c21⟩
 ·refine bS rfl ?_;refine cU ?_
  refine aN Tryz.results193 (λ w hw=>?_)
  exact⟨_,rfl,by simp only[true_iff];intro i h1 hi;exact hx.2.2 i h1 (by omega),hw.done⟩
theorem lW{l:List Pr}{a:Option Addr}{ca:Nat}{w:World}(ha:Cl w a (dD l))(hx:l.length<4611686018427387904) :
  Calls Tryz.prog 109 #[.slice a l.length ca] w λ e w'=>∃r:Bool,e=.returned (.bool r)/\(r=true↔tu l)/\St w [] [] w':=by
 refine enter Tryz.func109 Tryz.ntmps109 rfl rfl (SF.s1 ha) ?_
 simp only[cD]
 refine Hu ?_;refine Ht ?_
 refine gI [2,3,4,5,6,7,8,9,10,11,12,13,14,15,16,17,18,19,20,21] (λ k=>[(3,.int .i64 ((k:Nat):Int))]) (λ k=>1<=k/\k<=l.length+1/\∀i,1<=i->i<k->dK (l.getD (i-1) (⟨#[]⟩,0)).1 (l.getD i (⟨#[]⟩,0)).1=true) (λ k=>l.length-k) (1) (⟨Nat.le_refl _,by omega,λ i h1 hi=>by omega⟩) ?_ (λ k f hx=>?_)
 ·repeat (first|exact bQ _|refine bI (by exact rfl) ?_)
 dsimp only[gZ,List.map,List.cons_append,List.nil_append]
 refine Cm ?_;refine dY ?_;refine C5 ?_
 refine bC (λ c7=>?_) (λ c7=>?_)
 ·refine tB ?_;refine aR ?_;refine gE [0,1,2,3,4,5,6,7,8,9,10,11] ?_;refine gU ?_;refine iI ?_;refine oW ?_;refine gU ?_;refine O3 ?_;refine iI ?_;refine oW ?_;refine ab ?_;refine eK ?_
  refine bC (λ c21=>?_) (λ c21=>?_)
  ·refine cU ?_
   refine aN Tryz.results109 (λ w hw=>?_)
   exact⟨_,rfl,by simp only[Bool.false_eq_true,false_iff];intro h;have:=h k (by omega) (by omega);rw[aAW c21] at this;exact Bool.noConfusion this,hw.done⟩
  ·refine Kc6 ?_
   refine fA (k+1) ?_ ?_ ?_
   ·omega
   ·repeat' (first|exact bQ _|refine bI ?_ ?_)
    exact rfl
   ·exact⟨by omega,by omega,λ i h1 hi=>by rcases Nat.lt_succ_iff_lt_or_eq.1 hi with h|rfl;exact hx.2.2 i h1 h;exact aBB c21⟩
 ·refine bS rfl ?_;refine cU ?_
  refine aN Tryz.results109 (λ w hw=>?_)
  exact⟨_,rfl,by simp only[true_iff];intro i h1 hi;exact hx.2.2 i h1 (by omega),hw.done⟩
end

/- Nodes are made; lists are copied. -/
section
open Go.RowKit Go.Ct
theorem eb(o:Int)(w:World):Calls Tryz.prog 202 #[.int .i64 o] w λ e w'=>e=.returned ({Nd.zero with kind:=7,aZ:=o}:Nd).v/\St w [] [] w':=by
 refine enter Tryz.func202 Tryz.ntmps202 rfl rfl (SF.s0 w) ?_
 simp only[cD]
 refine J0 ?_;refine aJ (λ x2=>?_);refine aG ?_;refine J2 ?_;refine uU ?_
 refine bA Tryz.results202 (λ w hw=>?_)
 exact⟨rfl,hw.done⟩
theorem Yd(o x n:Int)(w:World):Calls Tryz.prog 136 #[.int .i64 o,.int .i64 x,.int .i64 n] w λ e w'=>e=.returned ({Nd.zero with kind:=8,aZ:=o,exp:=x,new:=n}:Nd).v/\St w [] [] w':=by
 refine enter Tryz.func136 Tryz.ntmps136 rfl rfl (SF.s0 w) ?_
 simp only[cD]
 refine J0 ?_;refine aJ (λ x6=>?_);refine aG ?_;refine Kb5 ?_;refine uU ?_
 refine bA Tryz.results136 (λ w hw=>?_)
 exact⟨rfl,hw.done⟩
theorem SF.frz{w w':World}{F:Fr}{o:Ow}(h:SF w [] [] [] F [o] w'):SF w [] [] [] ((o.p,o.cs)::F) [] w':=h.freeze .head (by simp)
theorem SF.aBU{w w':World}{F:Fr}{o o2:Ow}(h:SF w [] [] [] F [o,o2] w'):SF w [] [] [] ((o2.p,o2.cs)::(o.p,o.cs)::F) [] w':=(h.freeze .head (by simp)).freeze .head (by simp)
theorem Sf:xG Tryz.prog 164 24=true:=by kernel_rfl
theorem Vt:xG Tryz.prog 37 8=true:=by kernel_rfl
theorem Wh{l:List Pr}{a:Option Addr}{c:Nat}{w:World}(ha:Cl w a (dD l))(hl:l.length<=11728124029610):Calls Tryz.prog 124 #[.slice a l.length c] w λ e w' =>
  ∃p:Option Addr,e=.returned (.slice p l.length l.length)/\(l=[]->p=none)/\SF w [] [] [] [] [⟨p,dD l,l.length,164,2⟩] w':=by
 refine enter Tryz.func124 Tryz.ntmps124 rfl rfl (SF.s1 ha) ?_
 simp only[cD]
 refine Kb2 ?_;refine dY ?_;refine tS ?_
 refine bC (λ c6=>?_) (λ c6=>?_)
 ·have hl0:l=[]:=List.eq_nil_of_length_eq_zero (by omega)
  subst hl0
  refine cU ?_
  refine aN Tryz.results124 (λ w hw=>?_)
  exact⟨none,rfl,λ _=>rfl,(hw.kV 164 2).aW⟩
 ·refine aV ?_;refine J2 ?_;refine dY ?_;refine aM (Zr rf rf ep1 Sf om om) (λ x9=>?_);refine zB ?_;refine je (λ x12=>?_);refine aG ?_;refine Ka5 ?_
  refine aN Tryz.results124 (λ w hw=>?_)
  exact⟨some ⟨x9,0,none⟩,rfl,λ h=>absurd (congrArg List.length h) (by simpa using c6),by simpa using hw.aW (H':=[]) (F':=[])⟩
theorem Wp{l:List Int}{a:Option Addr}{c:Nat}{w:World}(ha:Cl w a (aH l))(hl:l.length<=35184372088832):Calls Tryz.prog 123 #[.slice a l.length c] w λ e w' =>
  ∃p:Option Addr,e=.returned (.slice p l.length l.length)/\(l=[]->p=none)/\SF w [] [] [] [] [⟨p,aH l,l.length,37,1⟩] w':=by
 refine enter Tryz.func123 Tryz.ntmps123 rfl rfl (SF.s1 ha) ?_
 simp only[cD]
 refine Kb2 ?_;refine dY ?_;refine tS ?_
 refine bC (λ c6=>?_) (λ c6=>?_)
 ·have hl0:l=[]:=List.eq_nil_of_length_eq_zero (by omega)
  subst hl0
  refine cU ?_
  refine aN Tryz.results123 (λ w hw=>?_)
  exact⟨none,rfl,λ _=>rfl,(hw.kV 37 1).aW⟩
 ·refine aV ?_;refine J2 ?_;refine dY ?_;refine aM (dk rf rf ka Vt om om) (λ x9=>?_);refine zB ?_;refine je (λ x12=>?_);refine aG ?_;refine Ka5 ?_
  refine aN Tryz.results123 (λ w hw=>?_)
  exact⟨some ⟨x9,0,none⟩,rfl,λ h=>absurd (congrArg List.length h) (by simpa using c6),by simpa using hw.aW (H':=[]) (F':=[])⟩
theorem Ur{n:Nd}{xs:List Int}{ys:List Pr}{w:World}(hr:sB w n xs ys)(h1:xs.length<=35184372088832)(h2:ys.length<=11728124029610):Calls Tryz.prog 78 #[n.v] w λ e w' =>
  ∃p:Option Addr×Option Addr,e=.returned ({n with brA:=p.1,brC:=xs.length,prA:=p.2,dD:=ys.length}:Nd).v/\((xs=[]->p.1=none)/\(ys=[]->p.2=none))/\SF w [] [] [] [] [⟨p.2,dD ys,ys.length,164,2⟩,⟨p.1,aH xs,xs.length,37,1⟩] w':=by
 have e1:=hr.brN;have e2:=hr.prN
 refine enter Tryz.func78 Tryz.ntmps78 rfl rfl (SF.s2 hr.br hr.pr) ?_
 simp only[cD]
 simp only[Nd.v,Nd.cells]
 refine J0 ?_;refine bO (λ x1=>?_);refine aJ (λ x2=>?_);refine aG ?_;refine gP ?_;refine aD (Zf (Hc:=λ _=>[]) (Fc:=λ _=>[]) (hc:=λ w1 hw=>by rw[e1];exact Wp (hw.cl fin) h1)) (λ x5 h5=>?_);refine vK ?_;refine gP ?_;refine aD (Zf (Hc:=λ _=>[]) (Fc:=λ _=>[]) (hc:=λ w1 hw=>by rw[e2];exact Wh (hw.cl fin) h2)) (λ x9 h9=>?_);refine vK ?_;refine oI ?_;refine J5 ?_
 refine bA Tryz.results78 (λ w hw=>?_)
 exact⟨(x5,x9),by rw[e1,e2];rfl,⟨h5,h9⟩,hw.aW⟩
theorem Ul{n:Nd}{xs:List Int}{ys:List Pr}{w:World}(hr:sB w n xs ys)(h1:xs.length<=35184372088832)(h2:ys.length<=11728124029610):Calls Tryz.prog 78 #[n.v] w λ e w' =>
  ∃p:Option Addr×Option Addr,e=.returned ({n with brA:=p.1,brC:=xs.length,prA:=p.2,dD:=ys.length}:Nd).v/\((xs=[]->p.1=none)/\(ys=[]->p.2=none))/\SF w [] [] [] [(p.1,aH xs),(p.2,dD ys)] [] w':=(Ur hr h1 h2).mono λ _ _ ⟨p,he,hp,hs⟩=>⟨p,he,hp,SF.aBU hs⟩
end

/- Nodes of memories: New, Node, Alloc. -/
end Go.Proofs.YtbajmaoegmbfgaaGreat
namespace Go.Ct
section
def eU:aU:=⟨{Nd.zero with kind:=1},[],[]⟩
def aC(L:List aU)(r:Int):aU:=if 1<=r/\r<=L.length then L.getD (r-1).toNat aU.zero else aU.zero
theorem qA{L:List aU}{r:Int}(h:¬(1<=r/\r<=L.length)):aC L r=aU.zero:=if_neg h
theorem zV{L:List aU}{k:Nat}(h:k<L.length):aC L ((k+1:Nat):Int)=L.getD k aU.zero:=by
 unfold aC
 rw[if_pos (by omega),show(((k+1:Nat):Int)-1).toNat=k by omega]
def dJ(L:List aU):List aU:=eU::eU::L
theorem nN(L:List aU):(dJ L).length=L.length+2:=rfl
structure AX where
 pn:Option Addr
 cn:Nat
 pc:Option Addr
 cc:Nat
 b1:Option Addr
 c1:Nat
 b2:Option Addr
 c2:Nat
def eQ(k:Int)(cs:List Int)(init:Int):List Int:=if k=2∨k=3∨k=5∨k=6∨k=8 then cs++[init] else cs
def lM(n:Nd)(xs:List Int)(ys:List Pr)(c:Nat)(x:AX):aU :=
 aU.mk {n with main:=if n.kind=2 then((c+1:Nat):Int) else 0,prev:=if n.kind=3∨n.kind=5∨n.kind=6 then((c+1:Nat):Int) else 0,status:=if n.kind=8 then((c+1:Nat):Int) else 0,brA:=x.b1,brN:=xs.length,brC:=x.c1,prA:=x.b2,prN:=ys.length,dD:=x.c2} xs ys
theorem jO{k:Int}{cs:List Int}{init:Int}:cs.length<=(eQ k cs init).length/\(eQ k cs init).length<=cs.length+1:=by unfold eQ;split<;>simp
theorem Ky{n:Nd}{xs:List Int}{ys:List Pr}{c:Nat}{x:AX}(h1:xs.length<=35184372088832)(h2:ys.length<=11728124029610):(lM n xs ys c x).Fit:=⟨rfl,rfl,h1,h2⟩
def aU.at_(v:aU)(p q:Option Addr):aU:=⟨{v.nd with brA:=p,brC:=v.xs.length,prA:=q,dD:=v.ys.length},v.xs,v.ys⟩
theorem aU.yf{v:aU}(h:v.Fit)(p q:Option Addr):(v.at_ p q).Fit:=⟨h.brN,h.prN,h.brS,h.prS⟩
end
end Go.Ct
namespace Go.Proofs.YtbajmaoegmbfgaaGreat
section
open Go.RowKit Go.Ct
variable{w:World}{D:List Nat}{b:Nat}{L:List aU}{cs:List Int}{gen acc:Int}{pn pc:Option Addr}{cn cc:Nat}{A:Fr}
theorem gg(w:World):Calls Tryz.prog 64 #[] w λ e w'=>∃q:Nat×Option Addr,e=.returned (.pointer (some ⟨q.1,0,none⟩))/\True /\
  SF w [] [(q.1,mO [eU,eU] [] 0 0 q.2 2 none 0)] [] [] (mW [eU,eU] [] q.2 2 none 0) w':=by
 refine enter Tryz.func64 Tryz.ntmps64 rfl rfl (SF.s0 w) ?_
 simp only[cD]
 refine cU ?_;refine J0 ?_;refine bM ?_;refine bM ?_;refine aM (R7 (c:=2) (sz:=14) rfl (λ _=>cQ rJ Lm rfl rfl rfl rfl (by simp only[Cf,mR,List.cons_append,List.nil_append];exact rfl))) (λ x3=>?_);refine bM ?_;refine bM ?_;refine bO (λ x6=>?_);refine J1 ?_
 refine aN Tryz.results64 (λ w hw=>?_)
 exact⟨(x6,some ⟨x3,0,none⟩),rfl,trivial,(SF.dx (hw.kV 37 1)).aW⟩
theorem Z4(hs:SF w D [(b,mO L cs gen acc pn cn pc cc)] A [] (mW L cs pn cn pc cc) w)(r:Int)(hr:r<1):Calls Tryz.prog 25 #[.pointer (some ⟨b,0,none⟩),.int .i64 r] w λ e w'=>∃q:Unit,e=.returned (aC L r).nd.v/\True /\
  SF w D [(b,mO L cs gen acc pn cn pc cc)] [] [] (mW L cs pn cn pc cc) w':=by
 refine enter Tryz.func25 Tryz.ntmps25 rfl rfl (yC hs) ?_
 simp only[cD]
 refine J0 ?_;refine aJ (λ x4=>?_);refine aG ?_;refine mD ?_;refine A9 ?_
 (refine eC 7 (λ g7=>?_) (λ g7=>?_)<;>(try (exfalso;omega))<;>(refine aI ?_))
 refine yg ?_;refine Rn ?_;refine Ka7 ?_
 refine bC (λ c16=>?_) (λ c16=>?_)
 ·try (exfalso;omega)
  refine Kb7 ?_
  refine bA Tryz.results25 (λ w hw=>?_)
  exact⟨(),by rw[qA (by omega)];rfl,trivial,hw.aW⟩
 ·exact nv c16
theorem Yp(hs:SF w D [(b,mO L cs gen acc pn cn pc cc)] A [] (mW L cs pn cn pc cc) w){k:Nat}(hk:(k:Int)<9223372036854775807)(hl:L.length<=274877906944):Calls Tryz.prog 25 #[.pointer (some ⟨b,0,none⟩),.int .i64 ((k+1:Nat):Int)] w λ e w'=>∃q:Unit,e=.returned (aC L ((k+1:Nat):Int)).nd.v/\True /\
  SF w D [(b,mO L cs gen acc pn cn pc cc)] [] [] (mW L cs pn cn pc cc) w':=by
 refine enter Tryz.func25 Tryz.ntmps25 rfl rfl (yC hs) ?_
 simp only[cD]
 refine J0 ?_;refine aJ (λ x4=>?_);refine aG ?_;refine mD ?_;refine A9 ?_
 (refine Ka3 ?_)
 refine yg ?_;refine Rn ?_;refine Ka7 ?_
 refine bC (λ c16=>?_) (λ c16=>?_)
 ·try (exfalso;omega)
  refine Kb7 ?_
  refine bA Tryz.results25 (λ w hw=>?_)
  (exact⟨(),by rw[qA (by omega)];rfl,trivial,hw.aW⟩)
 ·try (exfalso;omega)
  refine aV ?_;refine Hw ?_;refine Kc1 ?_;refine rR ?_;refine P9 ?_;refine J5 ?_
  refine bA Tryz.results25 (λ w hw=>?_)
  (exact⟨(),by rw[zV (by omega)];rfl,trivial,hw.aW⟩)
theorem rj(hs:SF w D [(b,mO L cs gen acc pn cn pc cc)] A [] (mW L cs pn cn pc cc) w)(r:Int)(hr:r<=9223372036854775807)(hl:L.length<=274877906944):Calls Tryz.prog 25 #[.pointer (some ⟨b,0,none⟩),.int .i64 r] w λ e w'=>∃q:Unit,e=.returned (aC L r).nd.v/\True /\
  SF w D [(b,mO L cs gen acc pn cn pc cc)] [] [] (mW L cs pn cn pc cc) w':=by
 rcases Int.lt_or_le r 1 with h|h
 ·exact Z4 hs r h
 ·obtain⟨k,rfl⟩:∃k:Nat,r=((k+1:Nat):Int):=⟨(r-1).toNat,by omega⟩
  exact Yp hs (by omega) hl
end

end Go.Proofs.YtbajmaoegmbfgaaGreat
