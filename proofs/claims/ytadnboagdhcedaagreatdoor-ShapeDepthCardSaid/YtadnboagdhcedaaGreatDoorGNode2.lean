/- Nodes are compared. -/
import Derived.Test.YtadnboagdhcedaaGreatDoorGJoin

set_option linter.unusedSimpArgs false
set_option linter.unusedVariables false
namespace Go.Proofs.YtadnboagdhcedaaGreatDoor
section
open Go.RowKit Go.Ct
theorem kr{a b:Nd}{x1 x2:List Int}{y1 y2:List Pr}{w:World}(ha:qP w a x1 y1)(hb:qP w b x2 y2) :
  Calls Tryz.prog 136 #[a.v,b.v] w λ e w'=>∃r:Bool,e=.returned (.bool r)/\(r=true↔pP a b x1 x2 y1 y2)/\St w [] [] w':=by
 have e1:=ha.brN;have e2:=hb.brN;have e3:=ha.prN;have e4:=hb.prN
 refine enter Tryz.func136 Tryz.ntmps136 rfl rfl (SF.s0 w) ?_
 simp only[cP]
 refine J0 ?_;refine bP (λ x2=>?_);refine bP (λ x3=>?_);refine gP ?_;refine gU ?_;refine J3 ?_;refine jS ?_;refine aB ?_
 (refine eF 10 (λ g10=>?_) (λ g10=>?_)<;>refine Ka1 ?_)
 all_goals (refine zI ?_;refine Ua ?_;refine aB ?_)
 all_goals (first|refine aH ?_|(refine eF 17 (λ g17=>?_) (λ g17=>?_)<;>refine Ka1 ?_))
 all_goals (refine zI ?_;refine Ua ?_;refine aB ?_)
 all_goals (first|refine aH ?_|(refine eF 24 (λ g24=>?_) (λ g24=>?_)<;>refine Ka1 ?_))
 all_goals (refine zI ?_;refine Ua ?_;refine aB ?_)
 all_goals (first|refine aH ?_|(refine eF 31 (λ g31=>?_) (λ g31=>?_)<;>refine Ka1 ?_))
 all_goals (refine zI ?_;refine Ua ?_;refine aB ?_)
 all_goals (first|refine aH ?_|(refine eF 38 (λ g38=>?_) (λ g38=>?_)<;>refine Ka1 ?_))
 all_goals (refine zI ?_;(first|refine aH ?_|(refine aF ?_;refine o0 ?_));refine Kc1 ?_)
 all_goals (first|refine aH ?_|(refine eF 45 (λ g45=>?_) (λ g45=>?_)<;>refine Ka1 ?_))
 all_goals (refine zI ?_;refine Ua ?_;refine aI ?_)
 all_goals
 refine aZ (λ c51=>?_) (λ c51=>?_)
 ·all_goals refine cQ ?_
  all_goals
   refine aQ Tryz.results136 (λ w hw=>?_)
   exact⟨_,rfl,by simp_all[pP],hw.done⟩
 ·try exact nv c51
  all_goals (refine bA ?_;refine gU ?_;refine J3 ?_;refine aU (cV (hc:=λ w1 hw=>by simp only[e1,e2];exact uy (ha.br.fC hw.st) (hb.br.fC hw.st) ha.brS)) (λ x56=>?_);refine aB ?_)
  all_goals ((refine eF 57 (λ g57=>?_) (λ g57=>?_)<;>refine Ka1 ?_))
  all_goals (refine zI ?_;(first|refine aH ?_|(refine aF ?_;refine aU (cV (hc:=λ w1 hw=>by simp only[e3,e4];exact zp (ha.pr.fC hw.st) (hb.pr.fC hw.st) ha.prS)) (λ x62=>?_)));refine Kc1 ?_)
  all_goals (first|refine aH ?_|(refine eF 64 (λ g64=>?_) (λ g64=>?_)<;>refine Ka1 ?_))
  all_goals (refine Kc7 ?_)
  all_goals (first|refine aH ?_|(refine eF 71 (λ g71=>?_) (λ g71=>?_)<;>refine Ka1 ?_))
  all_goals (refine Kc7 ?_)
  all_goals (first|refine aH ?_|(refine eF 78 (λ g78=>?_) (λ g78=>?_)<;>refine Ka1 ?_))
  all_goals (refine Kc7 ?_)
  all_goals (first|refine aH ?_|(refine eF 85 (λ g85=>?_) (λ g85=>?_)<;>refine Ka1 ?_))
  all_goals (refine Kc7 ?_)
  all_goals (first|refine aH ?_|(refine eF 92 (λ g92=>?_) (λ g92=>?_)<;>refine Ka1 ?_))
  all_goals (refine Kc2 ?_;refine J1 ?_)
  all_goals
   refine aQ Tryz.results136 (λ w hw=>?_)
   exact⟨_,rfl,by simp_all[pP],hw.done⟩
theorem sq{a b:Nd}{x1 x2:List Int}{y1 y2:List Pr}{w:World}(ha:qP w a x1 y1)(hb:qP w b x2 y2) :
  Calls Tryz.prog 157 #[a.v,b.v] w λ e w'=>∃r:Bool,e=.returned (.bool r)/\(r=true↔pP a b x1 x2 y1 y2)/\St w [] [] w':=by
 have e1:=ha.brN;have e2:=hb.brN;have e3:=ha.prN;have e4:=hb.prN
 refine enter Tryz.func157 Tryz.ntmps157 rfl rfl (SF.s0 w) ?_
 simp only[cP]
 refine J0 ?_;refine bP (λ x2=>?_);refine bP (λ x3=>?_);refine gP ?_;refine Uv (by dsimp only[List.append]) ?_;refine Kc6 ?_;refine lH ?_;refine aB ?_
 (refine eF 10 (λ g10=>?_) (λ g10=>?_)<;>refine Ka1 ?_)
 all_goals (refine Kc7 ?_)
 all_goals (first|refine aH ?_|(refine eF 17 (λ g17=>?_) (λ g17=>?_)<;>refine Ka1 ?_))
 all_goals (refine Kc7 ?_)
 all_goals (first|refine aH ?_|(refine eF 24 (λ g24=>?_) (λ g24=>?_)<;>refine Ka1 ?_))
 all_goals (refine Kc7 ?_)
 all_goals (first|refine aH ?_|(refine eF 31 (λ g31=>?_) (λ g31=>?_)<;>refine Ka1 ?_))
 all_goals (refine zI ?_;(first|refine aH ?_|(refine aF ?_;refine aU (cV (hc:=λ w1 hw=>by simp only[e1,e2];exact im (ha.br.fC hw.st) (hb.br.fC hw.st) ha.brS)) (λ x36=>?_)));refine Kc1 ?_)
 all_goals (first|refine aH ?_|(refine eF 38 (λ g38=>?_) (λ g38=>?_)<;>refine Ka1 ?_))
 all_goals (refine Kc7 ?_)
 all_goals (first|refine aH ?_|(refine eF 45 (λ g45=>?_) (λ g45=>?_)<;>refine Ka1 ?_))
 all_goals (refine zI ?_;(first|refine aH ?_|(refine aF ?_;refine nu ?_));refine Kc1 ?_)
 all_goals (first|refine aH ?_|(refine eF 52 (λ g52=>?_) (λ g52=>?_)<;>refine Ka1 ?_))
 all_goals (refine Kc7 ?_)
 all_goals (first|refine aH ?_|(refine eF 59 (λ g59=>?_) (λ g59=>?_)<;>refine Ka1 ?_))
 all_goals (refine zI ?_;(first|refine aH ?_|(refine aF ?_;refine aU (cV (hc:=λ w1 hw=>by simp only[e3,e4];exact v8 (ha.pr.fC hw.st) (hb.pr.fC hw.st) ha.prS)) (λ x64=>?_)));refine Kc1 ?_)
 all_goals (first|refine aH ?_|(refine eF 66 (λ g66=>?_) (λ g66=>?_)<;>refine Ka1 ?_))
 all_goals (refine Kc7 ?_)
 all_goals (first|refine aH ?_|(refine eF 73 (λ g73=>?_) (λ g73=>?_)<;>refine Ka1 ?_))
 all_goals (refine Kc7 ?_)
 all_goals (first|refine aH ?_|(refine eF 80 (λ g80=>?_) (λ g80=>?_)<;>refine Ka1 ?_))
 all_goals (refine Kc7 ?_)
 all_goals (first|refine aH ?_|(refine eF 87 (λ g87=>?_) (λ g87=>?_)<;>refine Ka1 ?_))
 all_goals (refine Kc7 ?_)
 all_goals (first|refine aH ?_|(refine eF 94 (λ g94=>?_) (λ g94=>?_)<;>refine Ka1 ?_))
 all_goals (refine Kc2 ?_;refine J1 ?_)
 all_goals
 refine aQ Tryz.results157 (λ w hw=>?_)
 exact⟨_,rfl,by simp_all[pP],hw.done⟩
theorem Dc(a:Nd)(w:World):Calls Tryz.prog 40 #[a.v] w λ e w'=>∃r:Bool,e=.returned (.bool r)/\(r=true↔(a.kind=3∨a.kind=5∨a.kind=6))/\St w [] [] w':=by
 refine enter Tryz.func40 Tryz.ntmps40 rfl rfl (SF.s0 w) ?_
 simp only[cP]
 refine J0 ?_;refine bP (λ x1=>?_);refine gP ?_;refine gU ?_;refine Kc3 ?_;refine aR ?_;refine jC ?_
 refine aZ (λ c5=>?_) (λ c5=>?_)
 ·refine bA ?_
  refine aZ (λ c5=>?_) (λ c5=>?_)
  ·refine cQ ?_
   refine aQ Tryz.results40 (λ w hw=>?_)
   exact⟨_,rfl,by simp_all,hw.done⟩
  ·refine Kb1 ?_
   refine aQ Tryz.results40 (λ w hw=>?_)
   exact⟨_,rfl,by simp_all,hw.done⟩
 ·refine jC ?_
  refine aZ (λ c5=>?_) (λ c5=>?_)
  ·refine bA ?_
   refine aZ (λ c5=>?_) (λ c5=>?_)
   ·refine cQ ?_
    refine aQ Tryz.results40 (λ w hw=>?_)
    exact⟨_,rfl,by simp_all,hw.done⟩
   ·refine Kb1 ?_
    refine aQ Tryz.results40 (λ w hw=>?_)
    exact⟨_,rfl,by simp_all,hw.done⟩
  ·refine dJ ?_;refine Qd ?_
   refine aZ (λ c5=>?_) (λ c5=>?_)
   ·refine cQ ?_
    refine aQ Tryz.results40 (λ w hw=>?_)
    exact⟨_,rfl,by simp_all,hw.done⟩
   ·refine Kb1 ?_
    refine aQ Tryz.results40 (λ w hw=>?_)
    exact⟨_,rfl,by simp_all,hw.done⟩
theorem U0(a:Nd)(w:World):Calls Tryz.prog 105 #[a.v] w λ e w'=>∃r:Bool,e=.returned (.bool r)/\(r=true↔(a.kind=3∨a.kind=5∨a.kind=6))/\St w [] [] w':=by
 refine enter Tryz.func105 Tryz.ntmps105 rfl rfl (SF.s0 w) ?_
 simp only[cP]
 refine J0 ?_;refine bP (λ x1=>?_);refine J1 ?_;refine gU ?_;refine lH ?_;refine aB ?_
 (refine eF 6 (λ g6=>?_) (λ g6=>?_)<;>refine Ka1 ?_)
 all_goals (refine n6 ?_;refine aB ?_)
 all_goals (first|refine aH ?_|(refine eF 11 (λ g11=>?_) (λ g11=>?_)<;>refine Ka1 ?_))
 all_goals (refine n6 ?_;refine J1 ?_)
 all_goals
 refine aQ Tryz.results105 (λ w hw=>?_)
 exact⟨_,rfl,by simp_all,hw.done⟩
end

/- Loops over slices that are read: contracts, the second part. -/
section
open Go.RowKit Go.Ct
theorem P3{xs:List Int}{a:Option Addr}{ca:Nat}{w:World}(ha:Cl w a (aG xs))(hx:xs.length<4611686018427387904) :
  Calls Tryz.prog 159 #[.slice a xs.length ca] w λ e w'=>∃r:Bool,e=.returned (.bool r)/\(r=true↔Pos xs)/\St w [] [] w':=by
 refine enter Tryz.func159 Tryz.ntmps159 rfl rfl (SF.s1 ha) ?_
 simp only[cP]
 refine Ka7 ?_;refine Kb8 ?_
 refine eY [2,4,7,8,9,10,11,12,13] (λ k=>[(7,.int .i64 ((k:Nat):Int))]) (λ k=>k<=xs.length/\∀i,i<k->1<=xs.getD i 0) (λ k=>xs.length-k) (0) (⟨Nat.zero_le _,λ i hi=>absurd hi (Nat.not_lt_zero i)⟩) ?_ (λ k f hx=>?_)
 ·repeat (first|exact bB _|refine aY (by exact rfl) ?_)
 dsimp only[fY,List.map,List.cons_append,List.nil_append]
 refine Kb4 ?_
 refine aZ (λ c8=>?_) (λ c8=>?_)
 ·refine Kc9 ?_;refine To ?_;refine Ka3 ?_;refine vV ?_
  refine aZ (λ c12=>?_) (λ c12=>?_)
  ·refine cQ ?_
   refine aQ Tryz.results159 (λ w hw=>?_)
   exact⟨_,rfl,by simp only[Bool.false_eq_true,false_iff];intro h;have:=h k (by omega);omega,hw.done⟩
  ·refine Kc4 ?_
   refine dO (k+1) ?_ ?_ ?_
   ·omega
   ·repeat' (first|exact bB _|refine aY ?_ ?_)
    exact rfl
   ·exact⟨by omega,λ i hi=>by rcases Nat.lt_succ_iff_lt_or_eq.1 hi with h|rfl;exact hx.2 i h;omega⟩
 ·refine bI rfl ?_;refine cQ ?_
  refine aQ Tryz.results159 (λ w hw=>?_)
  exact⟨_,rfl,by simp only[true_iff];intro i hi;exact hx.2 i (by omega),hw.done⟩
theorem Mg{l:List Pr}{a:Option Addr}{ca:Nat}{w:World}(ha:Cl w a (dF l))(hx:l.length<4611686018427387904) :
  Calls Tryz.prog 161 #[.slice a l.length ca] w λ e w'=>∃r:Bool,e=.returned (.bool r)/\(r=true↔A4 l)/\St w [] [] w':=by
 refine enter Tryz.func161 Tryz.ntmps161 rfl rfl (SF.s1 ha) ?_
 simp only[cP]
 refine Ka7 ?_;refine Kb8 ?_
 refine eY [2,4,7,8,9,10,11,12,13,14,15] (λ k=>[(7,.int .i64 ((k:Nat):Int))]) (λ k=>k<=l.length/\∀i,i<k->(l.getD i (⟨#[]⟩,0)).1.size<=64) (λ k=>l.length-k) (0) (⟨Nat.zero_le _,λ i hi=>absurd hi (Nat.not_lt_zero i)⟩) ?_ (λ k f hx=>?_)
 ·repeat (first|exact bB _|refine aY (by exact rfl) ?_)
 dsimp only[fY,List.map,List.cons_append,List.nil_append]
 refine Kb4 ?_
 refine aZ (λ c8=>?_) (λ c8=>?_)
 ·refine Kc9 ?_;refine To ?_;refine aP (λ x4=>?_);refine J5 ?_;refine gU ?_;refine jO ?_;refine wE ?_;refine aI ?_
  refine aZ (λ c14=>?_) (λ c14=>?_)
  ·refine cQ ?_
   refine aQ Tryz.results161 (λ w hw=>?_)
   exact⟨_,rfl,by simp only[Bool.false_eq_true,false_iff];intro h;have:=h k (by omega);omega,hw.done⟩
  ·refine Kc4 ?_
   refine dO (k+1) ?_ ?_ ?_
   ·omega
   ·repeat' (first|exact bB _|refine aY ?_ ?_)
    exact rfl
   ·exact⟨by omega,λ i hi=>by rcases Nat.lt_succ_iff_lt_or_eq.1 hi with h|rfl;exact hx.2 i h;omega⟩
 ·refine bI rfl ?_;refine cQ ?_
  refine aQ Tryz.results161 (λ w hw=>?_)
  exact⟨_,rfl,by simp only[true_iff];intro i hi;exact hx.2 i (by omega),hw.done⟩
theorem cj{l:List Pr}{a:Option Addr}{ca:Nat}{w:World}(ha:Cl w a (dF l))(hx:l.length<4611686018427387904) :
  Calls Tryz.prog 140 #[.slice a l.length ca] w λ e w'=>∃r:Bool,e=.returned (.bool r)/\(r=true↔A4 l)/\St w [] [] w':=by
 refine enter Tryz.func140 Tryz.ntmps140 rfl rfl (SF.s1 ha) ?_
 simp only[cP]
 refine F2 ?_;refine Gh ?_
 refine eY [2,3,4,5,6,7,8,9,10,11,12,13,14,15,16] (λ k=>[(3,.int .i64 ((k:Nat):Int))]) (λ k=>k<=l.length/\∀i,i<k->(l.getD i (⟨#[]⟩,0)).1.size<=64) (λ k=>l.length-k) (0) (⟨Nat.zero_le _,λ i hi=>absurd hi (Nat.not_lt_zero i)⟩) ?_ (λ k f hx=>?_)
 ·repeat (first|exact bB _|refine aY (by exact rfl) ?_)
 dsimp only[fY,List.map,List.cons_append,List.nil_append]
 refine Fz ?_;refine dI ?_;refine vV ?_
 refine aZ (λ c7=>?_) (λ c7=>?_)
 ·refine oE ?_;refine iQ ?_;refine iX ?_;refine J3 ?_;refine jO ?_;refine wE ?_;refine aI ?_
  refine aZ (λ c16=>?_) (λ c16=>?_)
  ·refine cQ ?_
   refine aQ Tryz.results140 (λ w hw=>?_)
   exact⟨_,rfl,by simp only[Bool.false_eq_true,false_iff];intro h;have:=h k (by omega);omega,hw.done⟩
  ·refine lM ?_;refine Ab ?_
   refine dO (k+1) ?_ ?_ ?_
   ·omega
   ·repeat' (first|exact bB _|refine aY ?_ ?_)
    exact rfl
   ·exact⟨by omega,λ i hi=>by rcases Nat.lt_succ_iff_lt_or_eq.1 hi with h|rfl;exact hx.2 i h;omega⟩
 ·refine bI rfl ?_;refine cQ ?_
  refine aQ Tryz.results140 (λ w hw=>?_)
  exact⟨_,rfl,by simp only[true_iff];intro i hi;exact hx.2 i (by omega),hw.done⟩
theorem T7{l:List Pr}{a:Option Addr}{ca:Nat}{w:World}(ha:Cl w a (dF l))(hx:l.length<4611686018427387904) :
  Calls Tryz.prog 160 #[.slice a l.length ca] w λ e w'=>∃r:Bool,e=.returned (.bool r)/\(r=true↔gu l)/\St w [] [] w':=by
 refine enter Tryz.func160 Tryz.ntmps160 rfl rfl (SF.s1 ha) ?_
 simp only[cP]
 refine F2 ?_;refine Gh ?_
 refine eY [2,3,4,5,6,7,8,9,10,11,12,13,14,15,16,17,18,19,20,21] (λ k=>[(3,.int .i64 ((k:Nat):Int))]) (λ k=>1<=k/\k<=l.length+1/\∀i,1<=i->i<k->cZ (l.getD (i-1) (⟨#[]⟩,0)).1 (l.getD i (⟨#[]⟩,0)).1=true) (λ k=>l.length-k) (1) (⟨Nat.le_refl _,by omega,λ i h1 hi=>by omega⟩) ?_ (λ k f hx=>?_)
 ·repeat (first|exact bB _|refine aY (by exact rfl) ?_)
 dsimp only[fY,List.map,List.cons_append,List.nil_append]
 refine Fz ?_;refine dI ?_;refine vV ?_
 refine aZ (λ c7=>?_) (λ c7=>?_)
 ·refine oE ?_;refine aR ?_;refine fK [0,1,2,3,4,5,6,7,8,9,10,11] ?_;refine gN ?_;refine uH ?_;refine gW ?_;refine mB ?_;refine gN ?_;refine gW ?_;refine mB ?_;refine bs ?_;refine dW ?_
  refine aZ (λ c21=>?_) (λ c21=>?_)
  ·refine cQ ?_
   refine aQ Tryz.results160 (λ w hw=>?_)
   exact⟨_,rfl,by simp only[Bool.false_eq_true,false_iff];intro h;have:=h k (by omega) (by omega);rw[c21] at this;exact Bool.noConfusion this,hw.done⟩
  ·refine lM ?_;refine Ab ?_
   refine dO (k+1) ?_ ?_ ?_
   ·omega
   ·repeat' (first|exact bB _|refine aY ?_ ?_)
    exact rfl
   ·exact⟨by omega,by omega,λ i h1 hi=>by rcases Nat.lt_succ_iff_lt_or_eq.1 hi with h|rfl;exact hx.2.2 i h1 h;exact c21⟩
 ·refine bI rfl ?_;refine cQ ?_
  refine aQ Tryz.results160 (λ w hw=>?_)
  exact⟨_,rfl,by simp only[true_iff];intro i h1 hi;exact hx.2.2 i h1 (by omega),hw.done⟩
theorem kW{l:List Pr}{a:Option Addr}{ca:Nat}{w:World}(ha:Cl w a (dF l))(hx:l.length<4611686018427387904) :
  Calls Tryz.prog 139 #[.slice a l.length ca] w λ e w'=>∃r:Bool,e=.returned (.bool r)/\(r=true↔gu l)/\St w [] [] w':=by
 refine enter Tryz.func139 Tryz.ntmps139 rfl rfl (SF.s1 ha) ?_
 simp only[cP]
 refine F2 ?_;refine Gh ?_
 refine eY [2,3,4,5,6,7,8,9,10,11,12,13,14,15,16,17,18,19,20,21] (λ k=>[(3,.int .i64 ((k:Nat):Int))]) (λ k=>1<=k/\k<=l.length+1/\∀i,1<=i->i<k->cZ (l.getD (i-1) (⟨#[]⟩,0)).1 (l.getD i (⟨#[]⟩,0)).1=true) (λ k=>l.length-k) (1) (⟨Nat.le_refl _,by omega,λ i h1 hi=>by omega⟩) ?_ (λ k f hx=>?_)
 ·repeat (first|exact bB _|refine aY (by exact rfl) ?_)
 dsimp only[fY,List.map,List.cons_append,List.nil_append]
 refine Fz ?_;refine dI ?_;refine vV ?_
 refine aZ (λ c7=>?_) (λ c7=>?_)
 ·refine oE ?_;refine aR ?_;refine fK [0,1,2,3,4,5,6,7,8,9,10,11] ?_;refine gN ?_;refine gW ?_;refine mB ?_;refine gN ?_;refine uH ?_;refine gW ?_;refine mB ?_;refine Zn ?_;refine dW ?_
  refine aZ (λ c21=>?_) (λ c21=>?_)
  ·refine cQ ?_
   refine aQ Tryz.results139 (λ w hw=>?_)
   exact⟨_,rfl,by simp only[Bool.false_eq_true,false_iff];intro h;have:=h k (by omega) (by omega);rw[yw c21] at this;exact Bool.noConfusion this,hw.done⟩
  ·refine lM ?_;refine Ab ?_
   refine dO (k+1) ?_ ?_ ?_
   ·omega
   ·repeat' (first|exact bB _|refine aY ?_ ?_)
    exact rfl
   ·exact⟨by omega,by omega,λ i h1 hi=>by rcases Nat.lt_succ_iff_lt_or_eq.1 hi with h|rfl;exact hx.2.2 i h1 h;exact aAj c21⟩
 ·refine bI rfl ?_;refine cQ ?_
  refine aQ Tryz.results139 (λ w hw=>?_)
  exact⟨_,rfl,by simp only[true_iff];intro i h1 hi;exact hx.2.2 i h1 (by omega),hw.done⟩
end

/- Nodes are made; lists are copied. -/
section
open Go.RowKit Go.Ct
theorem SF.frz{w w':World}{F:Fr}{o:Ow}(h:SF w [] [] [] F [o] w'):SF w [] [] [] ((o.p,o.cs)::F) [] w':=h.freeze .head (by simp)
theorem SF.aAM{w w':World}{F:Fr}{o o2:Ow}(h:SF w [] [] [] F [o,o2] w'):SF w [] [] [] ((o2.p,o2.cs)::(o.p,o.cs)::F) [] w':=(h.freeze .head (by simp)).freeze .head (by simp)
theorem Po:vM Tryz.prog 137 24=true:=by kernel_rfl
theorem Uo:vM Tryz.prog 62 8=true:=by kernel_rfl
theorem Va{l:List Pr}{a:Option Addr}{c:Nat}{w:World}(ha:Cl w a (dF l))(hl:l.length<=11728124029610):Calls Tryz.prog 135 #[.slice a l.length c] w λ e w' =>
  ∃p:Option Addr,e=.returned (.slice p l.length l.length)/\(l=[]->p=none)/\SF w [] [] [] [] [⟨p,dF l,l.length,137,2⟩] w':=by
 refine enter Tryz.func135 Tryz.ntmps135 rfl rfl (SF.s1 ha) ?_
 simp only[cP]
 refine Ka7 ?_;refine dI ?_;refine sX ?_
 refine aZ (λ c6=>?_) (λ c6=>?_)
 ·have hl0:l=[]:=List.eq_nil_of_length_eq_zero (by omega)
  subst hl0
  refine cQ ?_
  refine aQ Tryz.results135 (λ w hw=>?_)
  exact⟨none,rfl,λ _=>rfl,(hw.kT 137 2).aT⟩
 ·refine bA ?_;refine J2 ?_;refine dI ?_;refine aU (Xk rf rf ym Po om om) (λ x9=>?_);refine sV ?_;refine bi (λ x12=>?_);refine aI ?_;refine Ka6 ?_
  refine aQ Tryz.results135 (λ w hw=>?_)
  exact⟨some ⟨x9,0,none⟩,rfl,λ h=>absurd (congrArg List.length h) (by simpa using c6),by simpa using hw.aT (H':=[]) (F':=[])⟩
theorem U5{l:List Int}{a:Option Addr}{c:Nat}{w:World}(ha:Cl w a (aG l))(hl:l.length<=35184372088832):Calls Tryz.prog 134 #[.slice a l.length c] w λ e w' =>
  ∃p:Option Addr,e=.returned (.slice p l.length l.length)/\(l=[]->p=none)/\SF w [] [] [] [] [⟨p,aG l,l.length,62,1⟩] w':=by
 refine enter Tryz.func134 Tryz.ntmps134 rfl rfl (SF.s1 ha) ?_
 simp only[cP]
 refine Ka7 ?_;refine dI ?_;refine sX ?_
 refine aZ (λ c6=>?_) (λ c6=>?_)
 ·have hl0:l=[]:=List.eq_nil_of_length_eq_zero (by omega)
  subst hl0
  refine cQ ?_
  refine aQ Tryz.results134 (λ w hw=>?_)
  exact⟨none,rfl,λ _=>rfl,(hw.kT 62 1).aT⟩
 ·refine bA ?_;refine J2 ?_;refine dI ?_;refine aU (cw rf rf Y5 Uo om om) (λ x9=>?_);refine sV ?_;refine bi (λ x12=>?_);refine aI ?_;refine Ka6 ?_
  refine aQ Tryz.results134 (λ w hw=>?_)
  exact⟨some ⟨x9,0,none⟩,rfl,λ h=>absurd (congrArg List.length h) (by simpa using c6),by simpa using hw.aT (H':=[]) (F':=[])⟩
theorem dw{n:Nd}{xs:List Int}{ys:List Pr}{w:World}(hr:qP w n xs ys)(h1:xs.length<=35184372088832)(h2:ys.length<=11728124029610):Calls Tryz.prog 98 #[n.v] w λ e w' =>
  ∃p:Option Addr×Option Addr,e=.returned ({n with brA:=p.1,brC:=xs.length,prA:=p.2,dF:=ys.length}:Nd).v/\((xs=[]->p.1=none)/\(ys=[]->p.2=none))/\SF w [] [] [] [] [⟨p.2,dF ys,ys.length,137,2⟩,⟨p.1,aG xs,xs.length,62,1⟩] w':=by
 have e1:=hr.brN;have e2:=hr.prN
 refine enter Tryz.func98 Tryz.ntmps98 rfl rfl (SF.s2 hr.br hr.pr) ?_
 simp only[cP]
 simp only[Nd.v,Nd.cells]
 refine J0 ?_;refine bP (λ x1=>?_);refine aP (λ x2=>?_);refine aI ?_;refine gU ?_;refine aC (V0 (Hc:=λ _=>[]) (Fc:=λ _=>[]) (hc:=λ w1 hw=>by rw[e1];exact U5 (hw.cl fin) h1)) (λ x5 h5=>?_);refine xC ?_;refine gU ?_;refine aC (V0 (Hc:=λ _=>[]) (Fc:=λ _=>[]) (hc:=λ w1 hw=>by rw[e2];exact Va (hw.cl fin) h2)) (λ x9 h9=>?_);refine xC ?_;refine Ka9 ?_
 refine bK Tryz.results98 (λ w hw=>?_)
 exact⟨(x5,x9),by rw[e1,e2];rfl,⟨h5,h9⟩,hw.aT⟩
theorem fv{n:Nd}{xs:List Int}{ys:List Pr}{w:World}(hr:qP w n xs ys)(h1:xs.length<=35184372088832)(h2:ys.length<=11728124029610):Calls Tryz.prog 98 #[n.v] w λ e w' =>
  ∃p:Option Addr×Option Addr,e=.returned ({n with brA:=p.1,brC:=xs.length,prA:=p.2,dF:=ys.length}:Nd).v/\((xs=[]->p.1=none)/\(ys=[]->p.2=none))/\SF w [] [] [] [(p.1,aG xs),(p.2,dF ys)] [] w':=(dw hr h1 h2).mono λ _ _ ⟨p,he,hp,hs⟩=>⟨p,he,hp,SF.aAM hs⟩
end

/- Nodes of memories: New, Node, Alloc. -/
end Go.Proofs.YtadnboagdhcedaaGreatDoor
namespace Go.Ct
section
def cN:aL:=⟨{Nd.zero with kind:=1},[],[]⟩
def aA(L:List aL)(r:Int):aL:=if 1<=r/\r<=L.length then L.getD (r-1).toNat aL.zero else aL.zero
theorem xD{L:List aL}{r:Int}(h:¬(1<=r/\r<=L.length)):aA L r=aL.zero:=if_neg h
theorem fO{L:List aL}{k:Nat}(h:k<L.length):aA L ((k+1:Nat):Int)=L.getD k aL.zero:=by
 unfold aA
 rw[if_pos (by omega),show(((k+1:Nat):Int)-1).toNat=k by omega]
def vn(L:List aL):List aL:=cN::cN::L
theorem Zk:cN.Fit:=⟨rfl,rfl,by decide,by decide⟩
theorem Ux{L:List aL}(h:Fits L)(r:Int):(aA L r).Fit:=by
 unfold aA
 split
 ·rename_i hr
  exact h.at (by omega)
 ·exact Mi
structure AX where
 pn:Option Addr
 cn:Nat
 pc:Option Addr
 cc:Nat
 b1:Option Addr
 c1:Nat
 b2:Option Addr
 c2:Nat
def gG(k:Int)(cs:List Int)(init:Int):List Int:=if k=2∨k=3∨k=5∨k=6∨k=8 then cs++[init] else cs
def kK(n:Nd)(xs:List Int)(ys:List Pr)(c:Nat)(x:AX):aL :=
 aL.mk {n with main:=if n.kind=2 then((c+1:Nat):Int) else 0,prev:=if n.kind=3∨n.kind=5∨n.kind=6 then((c+1:Nat):Int) else 0,status:=if n.kind=8 then((c+1:Nat):Int) else 0,brA:=x.b1,brN:=xs.length,brC:=x.c1,prA:=x.b2,prN:=ys.length,dF:=x.c2} xs ys
theorem Bp{k:Int}{cs:List Int}{init:Int}:cs.length<=(gG k cs init).length/\(gG k cs init).length<=cs.length+1:=by unfold gG;split<;>simp
theorem I8{n:Nd}{xs:List Int}{ys:List Pr}{c:Nat}{x:AX}(h1:xs.length<=35184372088832)(h2:ys.length<=11728124029610):(kK n xs ys c x).Fit:=⟨rfl,rfl,h1,h2⟩
def aL.at_(v:aL)(p q:Option Addr):aL:=⟨{v.nd with brA:=p,brC:=v.xs.length,prA:=q,dF:=v.ys.length},v.xs,v.ys⟩
theorem aL.qv{v:aL}(h:v.Fit)(p q:Option Addr):(v.at_ p q).Fit:=⟨h.brN,h.prN,h.brS,h.prS⟩
end
end Go.Ct
namespace Go.Proofs.YtadnboagdhcedaaGreatDoor
section
open Go.RowKit Go.Ct
variable{w:World}{D:List Nat}{b:Nat}{L:List aL}{cs:List Int}{gen acc:Int}{pn pc:Option Addr}{cn cc:Nat}{A:Fr}
theorem Oi(w:World):Calls Tryz.prog 22 #[] w λ e w'=>∃q:Nat×Option Addr,e=.returned (.pointer (some ⟨q.1,0,none⟩))/\True /\
  SF w [] [(q.1,mO [cN,cN] [] 0 0 q.2 2 none 0)] [] [] (mW [cN,cN] [] q.2 2 none 0) w':=by
 refine enter Tryz.func22 Tryz.ntmps22 rfl rfl (SF.s0 w) ?_
 simp only[cP]
 refine cQ ?_;refine J0 ?_;refine bD ?_;refine bD ?_;refine aU (O3 (c:=2) (sz:=14) rfl (λ _=>cC qF Fp rfl rfl rfl rfl (by simp only[Az,lV,List.cons_append,List.nil_append];exact rfl))) (λ x3=>?_);refine bD ?_;refine bD ?_;refine bP (λ x6=>?_);refine J1 ?_
 refine aQ Tryz.results22 (λ w hw=>?_)
 exact⟨(x6,some ⟨x3,0,none⟩),rfl,trivial,(SF.au (hw.kT 62 1)).aT⟩
theorem Zw(hs:SF w D [(b,mO L cs gen acc pn cn pc cc)] A [] (mW L cs pn cn pc cc) w)(r:Int)(hr:r<1):Calls Tryz.prog 144 #[.pointer (some ⟨b,0,none⟩),.int .i64 r] w λ e w'=>∃q:Unit,e=.returned (aA L r).nd.v/\True /\
  SF w D [(b,mO L cs gen acc pn cn pc cc)] [] [] (mW L cs pn cn pc cc) w':=by
 refine enter Tryz.func144 Tryz.ntmps144 rfl rfl (tO hs) ?_
 simp only[cP]
 refine J0 ?_;refine aP (λ x4=>?_);refine aI ?_;refine kR ?_;refine Ec ?_
 (refine eF 7 (λ g7=>?_) (λ g7=>?_)<;>(try (exfalso;omega))<;>(refine aH ?_))
 refine tq ?_;refine Um ?_;refine Kb5 ?_
 refine aZ (λ c16=>?_) (λ c16=>?_)
 ·try (exfalso;omega)
  refine J0 ?_;refine zO ?_
  refine bK Tryz.results144 (λ w hw=>?_)
  exact⟨(),by rw[xD (by omega)];rfl,trivial,hw.aT⟩
 ·exact nv c16
theorem Wb(hs:SF w D [(b,mO L cs gen acc pn cn pc cc)] A [] (mW L cs pn cn pc cc) w){k:Nat}(hk:(k:Int)<9223372036854775807)(hl:L.length<=274877906944):Calls Tryz.prog 144 #[.pointer (some ⟨b,0,none⟩),.int .i64 ((k+1:Nat):Int)] w λ e w'=>∃q:Unit,e=.returned (aA L ((k+1:Nat):Int)).nd.v/\True /\
  SF w D [(b,mO L cs gen acc pn cn pc cc)] [] [] (mW L cs pn cn pc cc) w':=by
 refine enter Tryz.func144 Tryz.ntmps144 rfl rfl (tO hs) ?_
 simp only[cP]
 refine J0 ?_;refine aP (λ x4=>?_);refine aI ?_;refine kR ?_;refine Ec ?_
 (refine Ka4 ?_)
 refine tq ?_;refine Um ?_;refine Kb5 ?_
 refine aZ (λ c16=>?_) (λ c16=>?_)
 ·try (exfalso;omega)
  refine J0 ?_;refine zO ?_
  refine bK Tryz.results144 (λ w hw=>?_)
  (exact⟨(),by rw[xD (by omega)];rfl,trivial,hw.aT⟩)
 ·try (exfalso;omega)
  refine bA ?_;refine Fo ?_;refine J3 ?_;refine aB ?_;refine pC ?_;refine To ?_;refine J5 ?_
  refine bK Tryz.results144 (λ w hw=>?_)
  (exact⟨(),by rw[fO (by omega)];rfl,trivial,hw.aT⟩)
theorem fx(hs:SF w D [(b,mO L cs gen acc pn cn pc cc)] A [] (mW L cs pn cn pc cc) w)(r:Int)(hr:r<=9223372036854775807)(hl:L.length<=274877906944):Calls Tryz.prog 144 #[.pointer (some ⟨b,0,none⟩),.int .i64 r] w λ e w'=>∃q:Unit,e=.returned (aA L r).nd.v/\True /\
  SF w D [(b,mO L cs gen acc pn cn pc cc)] [] [] (mW L cs pn cn pc cc) w':=by
 rcases Int.lt_or_le r 1 with h|h
 ·exact Zw hs r h
 ·obtain⟨k,rfl⟩:∃k:Nat,r=((k+1:Nat):Int):=⟨(r-1).toNat,by omega⟩
  exact Wb hs (by omega) hl
end

/- Alloc of the two memories. -/
section
open Go.RowKit Go.Ct
variable{w:World}{D:List Nat}{b:Nat}{L:List aL}{cs:List Int}{gen acc:Int}{pn pc:Option Addr}{cn cc:Nat}{A:Fr}
theorem mR{n:Nd}{xs:List Int}{ys:List Pr}(init:Int)(hs:SF w D [(b,mO L cs gen acc pn cn pc cc)] [(n.brA,aG xs),(n.prA,dF ys)] [] (mW L cs pn cn pc cc) w)(e1:n.brN=xs.length)(e2:n.prN=ys.length)(h1:xs.length<=274877906944)(h2:ys.length<=274877906944)
  (hl:L.length<=274877906944) (hc:cs.length<=274877906944) :
  Calls Tryz.prog 32 #[.pointer (some ⟨b,0,none⟩),n.v,.int .i64 init] w λ e w'=>∃x:AX,e=.returned (.int .i64 ((L.length+1:Nat):Int))/\True /\
   SF w D [(b,mO (L++[kK n xs ys cs.length x]) (gG n.kind cs init) gen acc x.pn x.cn x.pc x.cc)] [] (kK n xs ys cs.length x).fr (mW (L++[kK n xs ys cs.length x]) (gG n.kind cs init) x.pn x.cn x.pc x.cc) w':=by
 refine enter Tryz.func32 Tryz.ntmps32 rfl rfl (tO hs) ?_
 simp only[cP]
 simp only[Nd.v,Nd.cells]
 refine J0 ?_;refine bP (λ x4=>?_);refine J1 ?_;refine J0 ?_;refine aD ?_;refine lZ (λ _=>?_);refine aD ?_;refine lZ (λ _=>?_);refine xC ?_;refine An ?_;refine Kc3 ?_;refine jC ?_
 refine aZ (λ c12=>?_) (λ c12=>?_)
 ·try (exfalso;omega)
  refine Kq ?_;refine aC (cM (hc:=λ w hs=>iY init hs hc)) (λ x16 h16=>?_);refine xC ?_;refine eT ?_;refine J0 ?_;refine gL (λ x32=>?_);refine J3 ?_;(refine eL (λ x35=>?_);try (refine eZ (λ h35=>?_)));refine xC ?_;refine J0 ?_;refine gL (λ x37=>?_);refine J3 ?_;(refine eL (λ x40=>?_);try (refine eZ (λ h40=>?_)));refine xC ?_;refine aR ?_;refine eG [(0,[]),(1,[]),(2,[]),(3,[]),(4,[]),(5,[]),(6,[]),(7,[5]),(8,[]),(9,[]),(10,[]),(11,[]),(12,[])] ?_;refine aS ?_;refine tQ ?_;refine bO ?_;refine cW (h:=λ x49=>?_);((refine cX (i:=8) (hq:=(bJ.fA (iC (sz:=14) rf rf B5 (by rw[eP]) fin rfl rfl Yx rfl (by decide) fE om) xB)) (h:=λ x50=>?_);try (refine fW (λ h50=>?_))));refine J4 ?_;refine aM ?_;refine zG ?_;refine Fo ?_;refine Mx ?_;refine J1 ?_
  refine aQ Tryz.results32 (λ w hw=>?_)
  have h2:=(hw.freeze .head).freeze .head
  simp only[pZ,List.nil_append] at h2
  have h3:=h2.aT (H':=[(b,_)]) (F':=[(x35.1,aG xs),(x40.1,dF ys)]) (O':=[_,_])
  exact⟨⟨x50.1,x50.2,x16.1,x16.2,x35.1,x35.2,x40.1,x40.2⟩,rfl,trivial,by simpa[mO,aO,mW,kK,aL.fr,gG,oD,Nd.cells, *] using h3⟩
 ·try (exfalso;omega)
  refine aR ?_;refine jC ?_
  refine aZ (λ c18=>?_) (λ c18=>?_)
  ·try (exfalso;omega)
   refine bA ?_
   refine aZ (λ c18=>?_) (λ c18=>?_)
   ·try (exfalso;omega)
    refine Kq ?_;refine aC (cM (hc:=λ w hs=>iY init hs hc)) (λ x24 h24=>?_);refine xC ?_;refine eT ?_;refine J0 ?_;refine gL (λ x32=>?_);refine J3 ?_;(refine eL (λ x35=>?_);try (refine eZ (λ h35=>?_)));refine xC ?_;refine J0 ?_;refine gL (λ x37=>?_);refine J3 ?_;(refine eL (λ x40=>?_);try (refine eZ (λ h40=>?_)));refine xC ?_;refine aR ?_;refine eG [(0,[]),(1,[]),(2,[]),(3,[]),(4,[]),(5,[]),(6,[]),(7,[5]),(8,[]),(9,[]),(10,[]),(11,[]),(12,[])] ?_;refine aS ?_;refine tQ ?_;refine bO ?_;refine cW (h:=λ x49=>?_);((refine cX (i:=8) (hq:=(bJ.fA (iC (sz:=14) rf rf B5 (by rw[eP]) fin rfl rfl Yx rfl (by decide) fE om) xB)) (h:=λ x50=>?_);try (refine fW (λ h50=>?_))));refine J4 ?_;refine aM ?_;refine zG ?_;refine Fo ?_;refine Mx ?_;refine J1 ?_
    refine aQ Tryz.results32 (λ w hw=>?_)
    have h2:=(hw.freeze .head).freeze .head
    simp only[pZ,List.nil_append] at h2
    have h3:=h2.aT (H':=[(b,_)]) (F':=[(x35.1,aG xs),(x40.1,dF ys)]) (O':=[_,_])
    exact⟨⟨x50.1,x50.2,x24.1,x24.2,x35.1,x35.2,x40.1,x40.2⟩,rfl,trivial,by simpa[mO,aO,mW,kK,aL.fr,gG,oD,Nd.cells, *] using h3⟩
   ·try (exfalso;omega)
  ·try (exfalso;omega)
   refine jC ?_
   refine aZ (λ c18=>?_) (λ c18=>?_)
   ·try (exfalso;omega)
    refine bA ?_
    refine aZ (λ c18=>?_) (λ c18=>?_)
    ·try (exfalso;omega)
     refine Kq ?_;refine aC (cM (hc:=λ w hs=>iY init hs hc)) (λ x24 h24=>?_);refine xC ?_;refine eT ?_;refine J0 ?_;refine gL (λ x32=>?_);refine J3 ?_;(refine eL (λ x35=>?_);try (refine eZ (λ h35=>?_)));refine xC ?_;refine J0 ?_;refine gL (λ x37=>?_);refine J3 ?_;(refine eL (λ x40=>?_);try (refine eZ (λ h40=>?_)));refine xC ?_;refine aR ?_;refine eG [(0,[]),(1,[]),(2,[]),(3,[]),(4,[]),(5,[]),(6,[]),(7,[5]),(8,[]),(9,[]),(10,[]),(11,[]),(12,[])] ?_;refine aS ?_;refine tQ ?_;refine bO ?_;refine cW (h:=λ x49=>?_);((refine cX (i:=8) (hq:=(bJ.fA (iC (sz:=14) rf rf B5 (by rw[eP]) fin rfl rfl Yx rfl (by decide) fE om) xB)) (h:=λ x50=>?_);try (refine fW (λ h50=>?_))));refine J4 ?_;refine aM ?_;refine zG ?_;refine Fo ?_;refine Mx ?_;refine J1 ?_
     refine aQ Tryz.results32 (λ w hw=>?_)
     have h2:=(hw.freeze .head).freeze .head
     simp only[pZ,List.nil_append] at h2
     have h3:=h2.aT (H':=[(b,_)]) (F':=[(x35.1,aG xs),(x40.1,dF ys)]) (O':=[_,_])
     exact⟨⟨x50.1,x50.2,x24.1,x24.2,x35.1,x35.2,x40.1,x40.2⟩,rfl,trivial,by simpa[mO,aO,mW,kK,aL.fr,gG,oD,Nd.cells, *] using h3⟩
    ·try (exfalso;omega)
   ·try (exfalso;omega)
    refine dJ ?_;refine Qd ?_
    refine aZ (λ c18=>?_) (λ c18=>?_)
    ·try (exfalso;omega)
     refine Kq ?_;refine aC (cM (hc:=λ w hs=>iY init hs hc)) (λ x24 h24=>?_);refine xC ?_;refine eT ?_;refine J0 ?_;refine gL (λ x32=>?_);refine J3 ?_;(refine eL (λ x35=>?_);try (refine eZ (λ h35=>?_)));refine xC ?_;refine J0 ?_;refine gL (λ x37=>?_);refine J3 ?_;(refine eL (λ x40=>?_);try (refine eZ (λ h40=>?_)));refine xC ?_;refine aR ?_;refine eG [(0,[]),(1,[]),(2,[]),(3,[]),(4,[]),(5,[]),(6,[]),(7,[5]),(8,[]),(9,[]),(10,[]),(11,[]),(12,[])] ?_;refine aS ?_;refine tQ ?_;refine bO ?_;refine cW (h:=λ x49=>?_);((refine cX (i:=8) (hq:=(bJ.fA (iC (sz:=14) rf rf B5 (by rw[eP]) fin rfl rfl Yx rfl (by decide) fE om) xB)) (h:=λ x50=>?_);try (refine fW (λ h50=>?_))));refine J4 ?_;refine aM ?_;refine zG ?_;refine Fo ?_;refine Mx ?_;refine J1 ?_
     refine aQ Tryz.results32 (λ w hw=>?_)
     have h2:=(hw.freeze .head).freeze .head
     simp only[pZ,List.nil_append] at h2
     have h3:=h2.aT (H':=[(b,_)]) (F':=[(x35.1,aG xs),(x40.1,dF ys)]) (O':=[_,_])
     exact⟨⟨x50.1,x50.2,x24.1,x24.2,x35.1,x35.2,x40.1,x40.2⟩,rfl,trivial,by simpa[mO,aO,mW,kK,aL.fr,gG,oD,Nd.cells, *] using h3⟩
    ·try (exfalso;omega)
     refine jC ?_
     refine aZ (λ c26=>?_) (λ c26=>?_)
     ·try (exfalso;omega)
      refine Kq ?_;refine aC (cM (hc:=λ w hs=>iY init hs hc)) (λ x30 h30=>?_);refine xC ?_;refine eT ?_;refine J0 ?_;refine gL (λ x32=>?_);refine J3 ?_;(refine eL (λ x35=>?_);try (refine eZ (λ h35=>?_)));refine xC ?_;refine J0 ?_;refine gL (λ x37=>?_);refine J3 ?_;(refine eL (λ x40=>?_);try (refine eZ (λ h40=>?_)));refine xC ?_;refine aR ?_;refine eG [(0,[]),(1,[]),(2,[]),(3,[]),(4,[]),(5,[]),(6,[]),(7,[5]),(8,[]),(9,[]),(10,[]),(11,[]),(12,[])] ?_;refine aS ?_;refine tQ ?_;refine bO ?_;refine cW (h:=λ x49=>?_);((refine cX (i:=8) (hq:=(bJ.fA (iC (sz:=14) rf rf B5 (by rw[eP]) fin rfl rfl Yx rfl (by decide) fE om) xB)) (h:=λ x50=>?_);try (refine fW (λ h50=>?_))));refine J4 ?_;refine aM ?_;refine zG ?_;refine Fo ?_;refine Mx ?_;refine J1 ?_
      refine aQ Tryz.results32 (λ w hw=>?_)
      have h2:=(hw.freeze .head).freeze .head
      simp only[pZ,List.nil_append] at h2
      have h3:=h2.aT (H':=[(b,_)]) (F':=[(x35.1,aG xs),(x40.1,dF ys)]) (O':=[_,_])
      exact⟨⟨x50.1,x50.2,x30.1,x30.2,x35.1,x35.2,x40.1,x40.2⟩,rfl,trivial,by simpa[mO,aO,mW,kK,aL.fr,gG,oD,Nd.cells, *] using h3⟩
     ·try (exfalso;omega)
      refine lM ?_;refine J0 ?_;refine gL (λ x32=>?_);refine J3 ?_;(refine eL (λ x35=>?_);try (refine eZ (λ h35=>?_)));refine xC ?_;refine J0 ?_;refine gL (λ x37=>?_);refine J3 ?_;(refine eL (λ x40=>?_);try (refine eZ (λ h40=>?_)));refine xC ?_;refine aR ?_;refine eG [(0,[]),(1,[]),(2,[]),(3,[]),(4,[]),(5,[]),(6,[]),(7,[5]),(8,[]),(9,[]),(10,[]),(11,[]),(12,[])] ?_;refine aS ?_;refine tQ ?_;refine bO ?_;refine cW (h:=λ x49=>?_);((refine cX (i:=8) (hq:=(bJ.fA (iC (sz:=14) rf rf B5 (by rw[eP]) fin rfl rfl Yx rfl (by decide) fE om) xB)) (h:=λ x50=>?_);try (refine fW (λ h50=>?_))));refine J4 ?_;refine aM ?_;refine zG ?_;refine Fo ?_;refine Mx ?_;refine J1 ?_
      refine aQ Tryz.results32 (λ w hw=>?_)
      have h2:=(hw.freeze .head).freeze .head
      simp only[pZ,List.nil_append] at h2
      have h3:=h2.aT (H':=[(b,_)]) (F':=[(x35.1,aG xs),(x40.1,dF ys)]) (O':=[_,_])
      exact⟨⟨x50.1,x50.2,pc,cc,x35.1,x35.2,x40.1,x40.2⟩,rfl,trivial,by simpa[mO,aO,mW,kK,aL.fr,gG,oD,Nd.cells, *] using h3⟩
end

end Go.Proofs.YtadnboagdhcedaaGreatDoor
