/- Nodes are compared. -/
import Derived.Test.YtadnboagdhcedaaGreatDoorGJoin
import Derived.Test.YtadnboagdhcedaaGreatDoorGFun
import Derived.Test.YtadnboagdhcedaaGreatDoorAuto

set_option linter.unusedSimpArgs false
set_option linter.unusedVariables false
namespace Go.Proofs.YtadnboagdhcedaaGreatDoor
section
open Go.RowKit Go.Ct
theorem rv{a b:Nd}{x1 x2:List Int}{y1 y2:List Pr}{w:World}(ha:qR w a x1 y1)(hb:qR w b x2 y2) :
  Calls Tryz.prog 136 #[a.v,b.v] w λ e w'=>∃r:Bool,e=.returned (.bool r)/\(r=true↔rG a b x1 x2 y1 y2)/\St w [] [] w':=by
 have e1:=ha.brN;have e2:=hb.brN;have e3:=ha.prN;have e4:=hb.prN;refine enter Tryz.func136 Tryz.ntmps136 rfl rfl (SF.s0 w) ?_;simp only[cP]
 refine K0o ?_;intro x2 x3;refine gX ?_;refine gH ?_;refine J3 ?_;refine iM ?_;refine aB ?_;(refine eM 10 (λ g10=>?_) (λ g10=>?_)<;>refine Ka1 ?_);all_goals (refine Ao ?_;refine Rq ?_;refine aB ?_)
 all_goals (first|refine aJ ?_|(refine eM 17 (λ g17=>?_) (λ g17=>?_)<;>refine Ka1 ?_))
 all_goals (refine Ao ?_;refine Rq ?_;refine aB ?_)
 all_goals (first|refine aJ ?_|(refine eM 24 (λ g24=>?_) (λ g24=>?_)<;>refine Ka1 ?_))
 all_goals (refine Ao ?_;refine Rq ?_;refine aB ?_)
 all_goals (first|refine aJ ?_|(refine eM 31 (λ g31=>?_) (λ g31=>?_)<;>refine Ka1 ?_))
 all_goals (refine Ao ?_;refine Rq ?_;refine aB ?_)
 all_goals (first|refine aJ ?_|(refine eM 38 (λ g38=>?_) (λ g38=>?_)<;>refine Ka1 ?_))
 all_goals (refine Ao ?_;(first|refine aJ ?_|(refine aF ?_;refine uo ?_));refine Kc4 ?_)
 all_goals (first|refine aJ ?_|(refine eM 45 (λ g45=>?_) (λ g45=>?_)<;>refine Ka1 ?_))
 all_goals (refine Ao ?_;refine Rq ?_;refine aK ?_)
 all_goals
 refine bA (λ c51=>?_) (λ c51=>?_)
 ·all_goals refine cR ?_
  all_goals
   refine aR Tryz.results136 (λ w hw=>?_);exact⟨_,rfl,by simp_all[rG],hw.done⟩
 ·try exact nv c51
  all_goals (refine bB ?_;refine gH ?_;refine J3 ?_;refine aS (cV (hc:=λ w1 hw=>by simp only[e1,e2];exact zv (ha.br.gU hw.st) (hb.br.gU hw.st) ha.brS)) (λ x56=>?_);refine aB ?_)
  all_goals ((refine eM 57 (λ g57=>?_) (λ g57=>?_)<;>refine Ka1 ?_))
  all_goals (refine Ao ?_;(first|refine aJ ?_|(refine aF ?_;refine aS (cV (hc:=λ w1 hw=>by simp only[e3,e4];exact aA4 (ha.pr.gU hw.st) (hb.pr.gU hw.st) ha.prS)) (λ x62=>?_)));refine Kc4 ?_)
  all_goals (first|refine aJ ?_|(refine eM 64 (λ g64=>?_) (λ g64=>?_)<;>refine Ka1 ?_))
  all_goals (refine Kd9 ?_)
  all_goals (first|refine aJ ?_|(refine eM 71 (λ g71=>?_) (λ g71=>?_)<;>refine Ka1 ?_))
  all_goals (refine Kd9 ?_)
  all_goals (first|refine aJ ?_|(refine eM 78 (λ g78=>?_) (λ g78=>?_)<;>refine Ka1 ?_))
  all_goals (refine Kd9 ?_)
  all_goals (first|refine aJ ?_|(refine eM 85 (λ g85=>?_) (λ g85=>?_)<;>refine Ka1 ?_))
  all_goals (refine Kd9 ?_)
  all_goals (first|refine aJ ?_|(refine eM 92 (λ g92=>?_) (λ g92=>?_)<;>refine Ka1 ?_))
  all_goals (refine Ao ?_;refine zC ?_;refine J1 ?_)
  all_goals
   refine aR Tryz.results136 (λ w hw=>?_);exact⟨_,rfl,by simp_all[rG],hw.done⟩
theorem ym{a b:Nd}{x1 x2:List Int}{y1 y2:List Pr}{w:World}(ha:qR w a x1 y1)(hb:qR w b x2 y2) :
  Calls Tryz.prog 157 #[a.v,b.v] w λ e w'=>∃r:Bool,e=.returned (.bool r)/\(r=true↔rG a b x1 x2 y1 y2)/\St w [] [] w':=by
 have e1:=ha.brN;have e2:=hb.brN;have e3:=ha.prN;have e4:=hb.prN;refine enter Tryz.func157 Tryz.ntmps157 rfl rfl (SF.s0 w) ?_;simp only[cP]
 refine K0o ?_;intro x2 x3;refine gX ?_;refine Xx (by dsimp only[List.append]) ?_;refine Kd3 ?_;refine lC ?_;refine aB ?_;(refine eM 10 (λ g10=>?_) (λ g10=>?_)<;>refine Ka1 ?_);all_goals (refine Kd9 ?_)
 all_goals (first|refine aJ ?_|(refine eM 17 (λ g17=>?_) (λ g17=>?_)<;>refine Ka1 ?_))
 all_goals (refine Kd9 ?_)
 all_goals (first|refine aJ ?_|(refine eM 24 (λ g24=>?_) (λ g24=>?_)<;>refine Ka1 ?_))
 all_goals (refine Kd9 ?_)
 all_goals (first|refine aJ ?_|(refine eM 31 (λ g31=>?_) (λ g31=>?_)<;>refine Ka1 ?_))
 all_goals (refine Ao ?_;(first|refine aJ ?_|(refine aF ?_;refine aS (cV (hc:=λ w1 hw=>by simp only[e1,e2];exact n6 (ha.br.gU hw.st) (hb.br.gU hw.st) ha.brS)) (λ x36=>?_)));refine Kc4 ?_)
 all_goals (first|refine aJ ?_|(refine eM 38 (λ g38=>?_) (λ g38=>?_)<;>refine Ka1 ?_))
 all_goals (refine Kd9 ?_)
 all_goals (first|refine aJ ?_|(refine eM 45 (λ g45=>?_) (λ g45=>?_)<;>refine Ka1 ?_))
 all_goals (refine Ao ?_;(first|refine aJ ?_|(refine aF ?_;refine wi ?_));refine Kc4 ?_)
 all_goals (first|refine aJ ?_|(refine eM 52 (λ g52=>?_) (λ g52=>?_)<;>refine Ka1 ?_))
 all_goals (refine Kd9 ?_)
 all_goals (first|refine aJ ?_|(refine eM 59 (λ g59=>?_) (λ g59=>?_)<;>refine Ka1 ?_))
 all_goals (refine Ao ?_;(first|refine aJ ?_|(refine aF ?_;refine aS (cV (hc:=λ w1 hw=>by simp only[e3,e4];exact aAn (ha.pr.gU hw.st) (hb.pr.gU hw.st) ha.prS)) (λ x64=>?_)));refine Kc4 ?_)
 all_goals (first|refine aJ ?_|(refine eM 66 (λ g66=>?_) (λ g66=>?_)<;>refine Ka1 ?_))
 all_goals (refine Kd9 ?_)
 all_goals (first|refine aJ ?_|(refine eM 73 (λ g73=>?_) (λ g73=>?_)<;>refine Ka1 ?_))
 all_goals (refine Kd9 ?_)
 all_goals (first|refine aJ ?_|(refine eM 80 (λ g80=>?_) (λ g80=>?_)<;>refine Ka1 ?_))
 all_goals (refine Kd9 ?_)
 all_goals (first|refine aJ ?_|(refine eM 87 (λ g87=>?_) (λ g87=>?_)<;>refine Ka1 ?_))
 all_goals (refine Kd9 ?_)
 all_goals (first|refine aJ ?_|(refine eM 94 (λ g94=>?_) (λ g94=>?_)<;>refine Ka1 ?_))
 all_goals (refine Ao ?_;refine zC ?_;refine J1 ?_)
 all_goals
 refine aR Tryz.results157 (λ w hw=>?_);exact⟨_,rfl,by simp_all[rG],hw.done⟩
theorem Cr(a:Nd)(w:World):Calls Tryz.prog 40 #[a.v] w λ e w'=>∃r:Bool,e=.returned (.bool r)/\(r=true↔(a.kind=3∨a.kind=5∨a.kind=6))/\St w [] [] w':=by
 refine enter Tryz.func40 Tryz.ntmps40 rfl rfl (SF.s0 w) ?_;simp only[cP]
 refine K1k ?_;intro x1;refine gX ?_;refine gH ?_;refine Kc3 ?_;refine aV ?_;refine jM ?_;refine bA (λ c5=>?_) (λ c5=>?_)
 ·refine bB ?_;refine bA (λ c5=>?_) (λ c5=>?_)
  ·refine cR ?_;refine aR Tryz.results40 (λ w hw=>?_);exact⟨_,rfl,by simp_all,hw.done⟩
  ·refine Kb6 ?_;refine aR Tryz.results40 (λ w hw=>?_);exact⟨_,rfl,by simp_all,hw.done⟩
 ·refine jM ?_;refine bA (λ c5=>?_) (λ c5=>?_)
  ·refine bB ?_;refine bA (λ c5=>?_) (λ c5=>?_)
   ·refine cR ?_;refine aR Tryz.results40 (λ w hw=>?_);exact⟨_,rfl,by simp_all,hw.done⟩
   ·refine Kb6 ?_;refine aR Tryz.results40 (λ w hw=>?_);exact⟨_,rfl,by simp_all,hw.done⟩
  ·refine dM ?_;refine Oa ?_;refine bA (λ c5=>?_) (λ c5=>?_)
   ·refine cR ?_;refine aR Tryz.results40 (λ w hw=>?_);exact⟨_,rfl,by simp_all,hw.done⟩
   ·refine Kb6 ?_;refine aR Tryz.results40 (λ w hw=>?_);exact⟨_,rfl,by simp_all,hw.done⟩
theorem xZ(a:Nd)(w:World):Calls Tryz.prog 105 #[a.v] w λ e w'=>∃r:Bool,e=.returned (.bool r)/\(r=true↔(a.kind=3∨a.kind=5∨a.kind=6))/\St w [] [] w':=by
 refine enter Tryz.func105 Tryz.ntmps105 rfl rfl (SF.s0 w) ?_;simp only[cP]
 refine K1k ?_;intro x1;refine J1 ?_;refine gH ?_;refine lC ?_;refine aB ?_;(refine eM 6 (λ g6=>?_) (λ g6=>?_)<;>refine Ka1 ?_);all_goals (refine pu ?_;refine aB ?_)
 all_goals (first|refine aJ ?_|(refine eM 11 (λ g11=>?_) (λ g11=>?_)<;>refine Ka1 ?_))
 all_goals (refine pu ?_;refine J1 ?_)
 all_goals
 refine aR Tryz.results105 (λ w hw=>?_);exact⟨_,rfl,by simp_all,hw.done⟩
end

/- Loops over slices that are read: contracts, the second part. -/
section
open Go.RowKit Go.Ct
theorem Tb{xs:List Int}{a:Option Addr}{ca:Nat}{w:World}(ha:Cl w a (aH xs))(hx:xs.length<4611686018427387904) :
  Calls Tryz.prog 159 #[.slice a xs.length ca] w λ e w'=>∃r:Bool,e=.returned (.bool r)/\(r=true↔Pos xs)/\St w [] [] w':=by
 refine enter Tryz.func159 Tryz.ntmps159 rfl rfl (SF.s1 ha) ?_;simp only[cP]
 refine Kb4 ?_;refine Kc6 ?_;refine fK [2,4,7,8,9,10,11,12,13] (λ k=>[(7,.int .i64 ((k:Nat):Int))]) (λ k=>k<=xs.length/\∀i,i<k->1<=xs.getD i 0) (λ k=>xs.length-k) (0) (⟨Nat.zero_le _,λ i hi=>absurd hi (Nat.not_lt_zero i)⟩) ?_ (λ k f hx=>?_)
 ·repeat (first|exact bC _|refine aY (by exact rfl) ?_)
 refine K2p ?_;refine bA (λ c8=>?_) (λ c8=>?_)
 ·refine Ke1 ?_;refine Pb ?_;refine Ka6 ?_;refine rJ ?_;refine bA (λ c12=>?_) (λ c12=>?_)
  ·refine cR ?_;refine aR Tryz.results159 (λ w hw=>?_);exact⟨_,rfl,by simp only[Bool.false_eq_true,false_iff];intro h;have:=h k (by omega);omega,hw.done⟩
  ·refine Kc9 ?_;refine dW (k+1) ?_ ?_ ?_
   ·omega
   ·repeat' (first|exact bC _|refine aY ?_ ?_)
    exact rfl
   ·exact⟨by omega,λ i hi=>by rcases Nat.lt_succ_iff_lt_or_eq.1 hi with h|rfl;exact hx.2 i h;omega⟩
 ·refine K0z ?_;refine aR Tryz.results159 (λ w hw=>?_);exact⟨_,rfl,by simp only[true_iff];intro i hi;exact hx.2 i (by omega),hw.done⟩
theorem N4{l:List Pr}{a:Option Addr}{ca:Nat}{w:World}(ha:Cl w a (dK l))(hx:l.length<4611686018427387904) :
  Calls Tryz.prog 161 #[.slice a l.length ca] w λ e w'=>∃r:Bool,e=.returned (.bool r)/\(r=true↔Dv l)/\St w [] [] w':=by
 refine enter Tryz.func161 Tryz.ntmps161 rfl rfl (SF.s1 ha) ?_;simp only[cP]
 refine Kb4 ?_;refine Kc6 ?_;refine fK [2,4,7,8,9,10,11,12,13,14,15] (λ k=>[(7,.int .i64 ((k:Nat):Int))]) (λ k=>k<=l.length/\∀i,i<k->(l.getD i (⟨#[]⟩,0)).1.size<=64) (λ k=>l.length-k) (0) (⟨Nat.zero_le _,λ i hi=>absurd hi (Nat.not_lt_zero i)⟩) ?_ (λ k f hx=>?_)
 ·repeat (first|exact bC _|refine aY (by exact rfl) ?_)
 refine K2p ?_;refine bA (λ c8=>?_) (λ c8=>?_)
 ·refine Ke1 ?_;refine Pb ?_;refine aT (λ x4=>?_);refine J5 ?_;refine gH ?_;refine lF ?_;refine vH ?_;refine aK ?_;refine bA (λ c14=>?_) (λ c14=>?_)
  ·refine cR ?_;refine aR Tryz.results161 (λ w hw=>?_);exact⟨_,rfl,by simp only[Bool.false_eq_true,false_iff];intro h;have:=h k (by omega);omega,hw.done⟩
  ·refine Kc9 ?_;refine dW (k+1) ?_ ?_ ?_
   ·omega
   ·repeat' (first|exact bC _|refine aY ?_ ?_)
    exact rfl
   ·exact⟨by omega,λ i hi=>by rcases Nat.lt_succ_iff_lt_or_eq.1 hi with h|rfl;exact hx.2 i h;omega⟩
 ·refine K0z ?_;refine aR Tryz.results161 (λ w hw=>?_);exact⟨_,rfl,by simp only[true_iff];intro i hi;exact hx.2 i (by omega),hw.done⟩
theorem cf{l:List Pr}{a:Option Addr}{ca:Nat}{w:World}(ha:Cl w a (dK l))(hx:l.length<4611686018427387904) :
  Calls Tryz.prog 140 #[.slice a l.length ca] w λ e w'=>∃r:Bool,e=.returned (.bool r)/\(r=true↔Dv l)/\St w [] [] w':=by
 refine enter Tryz.func140 Tryz.ntmps140 rfl rfl (SF.s1 ha) ?_;simp only[cP]
 refine Ke3 ?_;refine fK [2,3,4,5,6,7,8,9,10,11,12,13,14,15,16] (λ k=>[(3,.int .i64 ((k:Nat):Int))]) (λ k=>k<=l.length/\∀i,i<k->(l.getD i (⟨#[]⟩,0)).1.size<=64) (λ k=>l.length-k) (0) (⟨Nat.zero_le _,λ i hi=>absurd hi (Nat.not_lt_zero i)⟩) ?_ (λ k f hx=>?_)
 ·repeat (first|exact bC _|refine aY (by exact rfl) ?_)
 refine K0a ?_;refine Kd7 ?_;refine bA (λ c7=>?_) (λ c7=>?_)
 ·refine mZ ?_;refine jJ ?_;refine eA ?_;refine J3 ?_;refine lF ?_;refine vH ?_;refine aK ?_;refine bA (λ c16=>?_) (λ c16=>?_)
  ·refine cR ?_;refine aR Tryz.results140 (λ w hw=>?_);exact⟨_,rfl,by simp only[Bool.false_eq_true,false_iff];intro h;have:=h k (by omega);omega,hw.done⟩
  ·refine Kc1 ?_;refine dW (k+1) ?_ ?_ ?_
   ·omega
   ·repeat' (first|exact bC _|refine aY ?_ ?_)
    exact rfl
   ·exact⟨by omega,λ i hi=>by rcases Nat.lt_succ_iff_lt_or_eq.1 hi with h|rfl;exact hx.2 i h;omega⟩
 ·refine K0z ?_;refine aR Tryz.results140 (λ w hw=>?_);exact⟨_,rfl,by simp only[true_iff];intro i hi;exact hx.2 i (by omega),hw.done⟩
theorem Zd{l:List Pr}{a:Option Addr}{ca:Nat}{w:World}(ha:Cl w a (dK l))(hx:l.length<4611686018427387904) :
  Calls Tryz.prog 160 #[.slice a l.length ca] w λ e w'=>∃r:Bool,e=.returned (.bool r)/\(r=true↔rk l)/\St w [] [] w':=by
 refine enter Tryz.func160 Tryz.ntmps160 rfl rfl (SF.s1 ha) ?_;simp only[cP]
 refine Ke3 ?_;refine fK [2,3,4,5,6,7,8,9,10,11,12,13,14,15,16,17,18,19,20,21] (λ k=>[(3,.int .i64 ((k:Nat):Int))]) (λ k=>1<=k/\k<=l.length+1/\∀i,1<=i->i<k->dV (l.getD (i-1) (⟨#[]⟩,0)).1 (l.getD i (⟨#[]⟩,0)).1=true) (λ k=>l.length-k) (1) (⟨Nat.le_refl _,by omega,λ i h1 hi=>by omega⟩) ?_ (λ k f hx=>?_)
 ·repeat (first|exact bC _|refine aY (by exact rfl) ?_)
 refine K0a ?_;refine Kd7 ?_;refine bA (λ c7=>?_) (λ c7=>?_)
 ·refine mZ ?_;refine aV ?_;refine gP [0,1,2,3,4,5,6,7,8,9,10,11] ?_;refine iJ ?_;refine qK ?_;refine jA ?_;refine iT ?_;refine iJ ?_;refine jA ?_;refine iT ?_;refine jo ?_;refine dJ ?_;refine bA (λ c21=>?_) (λ c21=>?_)
  ·refine cR ?_;refine aR Tryz.results160 (λ w hw=>?_);exact⟨_,rfl,by simp only[Bool.false_eq_true,false_iff];intro h;have:=h k (by omega) (by omega);rw[c21] at this;exact Bool.noConfusion this,hw.done⟩
  ·refine Kc1 ?_;refine dW (k+1) ?_ ?_ ?_
   ·omega
   ·repeat' (first|exact bC _|refine aY ?_ ?_)
    exact rfl
   ·exact⟨by omega,by omega,λ i h1 hi=>by rcases Nat.lt_succ_iff_lt_or_eq.1 hi with h|rfl;exact hx.2.2 i h1 h;exact c21⟩
 ·refine K0z ?_;refine aR Tryz.results160 (λ w hw=>?_);exact⟨_,rfl,by simp only[true_iff];intro i h1 hi;exact hx.2.2 i h1 (by omega),hw.done⟩
theorem mY{l:List Pr}{a:Option Addr}{ca:Nat}{w:World}(ha:Cl w a (dK l))(hx:l.length<4611686018427387904) :
  Calls Tryz.prog 139 #[.slice a l.length ca] w λ e w'=>∃r:Bool,e=.returned (.bool r)/\(r=true↔rk l)/\St w [] [] w':=by
 refine enter Tryz.func139 Tryz.ntmps139 rfl rfl (SF.s1 ha) ?_;simp only[cP]
 refine Ke3 ?_;refine fK [2,3,4,5,6,7,8,9,10,11,12,13,14,15,16,17,18,19,20,21] (λ k=>[(3,.int .i64 ((k:Nat):Int))]) (λ k=>1<=k/\k<=l.length+1/\∀i,1<=i->i<k->dV (l.getD (i-1) (⟨#[]⟩,0)).1 (l.getD i (⟨#[]⟩,0)).1=true) (λ k=>l.length-k) (1) (⟨Nat.le_refl _,by omega,λ i h1 hi=>by omega⟩) ?_ (λ k f hx=>?_)
 ·repeat (first|exact bC _|refine aY (by exact rfl) ?_)
 refine K0a ?_;refine Kd7 ?_;refine bA (λ c7=>?_) (λ c7=>?_)
 ·refine mZ ?_;refine aV ?_;refine gP [0,1,2,3,4,5,6,7,8,9,10,11] ?_;refine iJ ?_;refine jA ?_;refine iT ?_;refine iJ ?_;refine qK ?_;refine jA ?_;refine iT ?_;refine iq ?_;refine dJ ?_;refine bA (λ c21=>?_) (λ c21=>?_)
  ·refine cR ?_;refine aR Tryz.results139 (λ w hw=>?_);exact⟨_,rfl,by simp only[Bool.false_eq_true,false_iff];intro h;have:=h k (by omega) (by omega);rw[aBD c21] at this;exact Bool.noConfusion this,hw.done⟩
  ·refine Kc1 ?_;refine dW (k+1) ?_ ?_ ?_
   ·omega
   ·repeat' (first|exact bC _|refine aY ?_ ?_)
    exact rfl
   ·exact⟨by omega,by omega,λ i h1 hi=>by rcases Nat.lt_succ_iff_lt_or_eq.1 hi with h|rfl;exact hx.2.2 i h1 h;exact aAW c21⟩
 ·refine K0z ?_;refine aR Tryz.results139 (λ w hw=>?_);exact⟨_,rfl,by simp only[true_iff];intro i h1 hi;exact hx.2.2 i h1 (by omega),hw.done⟩
end

/- Nodes are made; lists are copied. -/
section
open Go.RowKit Go.Ct
theorem SF.frz{w w':World}{F:Fr}{o:Ow}(h:SF w [] [] [] F [o] w'):SF w [] [] [] ((o.p,o.cs)::F) [] w':=h.freeze .head (by simp)
theorem SF.aCM{w w':World}{F:Fr}{o o2:Ow}(h:SF w [] [] [] F [o,o2] w'):SF w [] [] [] ((o2.p,o2.cs)::(o.p,o.cs)::F) [] w':=(h.freeze .head (by simp)).freeze .head (by simp)
theorem Th:yK Tryz.prog 137 24=true:=by kernel_rfl
theorem Xk:yK Tryz.prog 62 8=true:=by kernel_rfl
theorem Xw{l:List Pr}{a:Option Addr}{c:Nat}{w:World}(ha:Cl w a (dK l))(hl:l.length<=11728124029610):Calls Tryz.prog 135 #[.slice a l.length c] w λ e w' =>
  ∃p:Option Addr,e=.returned (.slice p l.length l.length)/\(l=[]->p=none)/\SF w [] [] [] [] [⟨p,dK l,l.length,137,2⟩] w':=by
 refine enter Tryz.func135 Tryz.ntmps135 rfl rfl (SF.s1 ha) ?_;simp only[cP]
 refine Kb4 ?_;refine dE ?_;refine rW ?_;refine bA (λ c6=>?_) (λ c6=>?_)
 ·have hl0:l=[]:=List.eq_nil_of_length_eq_zero (by omega);subst hl0;refine cR ?_;refine aR Tryz.results135 (λ w hw=>?_);exact⟨none,rfl,λ _=>rfl,(hw.kS 137 2).aQ⟩
 ·refine Kb3 ?_;refine dE ?_;refine aS (dj rf rf vj Th om om) (λ x9=>?_);refine vE ?_;refine ae (λ x12=>?_);refine aK ?_;refine Ka5 ?_;refine aR Tryz.results135 (λ w hw=>?_);exact⟨some ⟨x9,0,none⟩,rfl,λ h=>absurd (congrArg List.length h) (by simpa using c6),by simpa using hw.aQ (H':=[]) (F':=[])⟩
theorem Y8{l:List Int}{a:Option Addr}{c:Nat}{w:World}(ha:Cl w a (aH l))(hl:l.length<=35184372088832):Calls Tryz.prog 134 #[.slice a l.length c] w λ e w' =>
  ∃p:Option Addr,e=.returned (.slice p l.length l.length)/\(l=[]->p=none)/\SF w [] [] [] [] [⟨p,aH l,l.length,62,1⟩] w':=by
 refine enter Tryz.func134 Tryz.ntmps134 rfl rfl (SF.s1 ha) ?_;simp only[cP]
 refine Kb4 ?_;refine dE ?_;refine rW ?_;refine bA (λ c6=>?_) (λ c6=>?_)
 ·have hl0:l=[]:=List.eq_nil_of_length_eq_zero (by omega);subst hl0;refine cR ?_;refine aR Tryz.results134 (λ w hw=>?_);exact⟨none,rfl,λ _=>rfl,(hw.kS 62 1).aQ⟩
 ·refine Kb3 ?_;refine dE ?_;refine aS (ka rf rf Yd Xk om om) (λ x9=>?_);refine vE ?_;refine ae (λ x12=>?_);refine aK ?_;refine Ka5 ?_;refine aR Tryz.results134 (λ w hw=>?_);exact⟨some ⟨x9,0,none⟩,rfl,λ h=>absurd (congrArg List.length h) (by simpa using c6),by simpa using hw.aQ (H':=[]) (F':=[])⟩
theorem qi{n:Nd}{xs:List Int}{ys:List Pr}{w:World}(hr:qR w n xs ys)(h1:xs.length<=35184372088832)(h2:ys.length<=11728124029610):Calls Tryz.prog 98 #[n.v] w λ e w' =>
  ∃p:Option Addr×Option Addr,e=.returned ({n with brA:=p.1,brC:=xs.length,prA:=p.2,dK:=ys.length}:Nd).v/\((xs=[]->p.1=none)/\(ys=[]->p.2=none))/\SF w [] [] [] [] [⟨p.2,dK ys,ys.length,137,2⟩,⟨p.1,aH xs,xs.length,62,1⟩] w':=by
 have e1:=hr.brN;have e2:=hr.prN;refine enter Tryz.func98 Tryz.ntmps98 rfl rfl (SF.s2 hr.br hr.pr) ?_;simp only[cP]
 simp only[Nd.v,Nd.cells]
 refine K1k ?_;intro x1;refine aT (λ x2=>?_);refine aK ?_;refine gH ?_;refine aD (Rr (Hc:=λ _=>[]) (Fc:=λ _=>[]) (hc:=λ w1 hw=>by rw[e1];exact Y8 (hw.cl fin) h1)) (λ x5 h5=>?_);refine zV ?_;refine gH ?_;refine aD (Rr (Hc:=λ _=>[]) (Fc:=λ _=>[]) (hc:=λ w1 hw=>by rw[e2];exact Xw (hw.cl fin) h2)) (λ x9 h9=>?_);refine zV ?_;refine Kb5 ?_;refine bK Tryz.results98 (λ w hw=>?_);exact⟨(x5,x9),by rw[e1,e2];rfl,⟨h5,h9⟩,hw.aQ⟩
theorem qe{n:Nd}{xs:List Int}{ys:List Pr}{w:World}(hr:qR w n xs ys)(h1:xs.length<=35184372088832)(h2:ys.length<=11728124029610):Calls Tryz.prog 98 #[n.v] w λ e w' =>
  ∃p:Option Addr×Option Addr,e=.returned ({n with brA:=p.1,brC:=xs.length,prA:=p.2,dK:=ys.length}:Nd).v/\((xs=[]->p.1=none)/\(ys=[]->p.2=none))/\SF w [] [] [] [(p.1,aH xs),(p.2,dK ys)] [] w':=(qi hr h1 h2).mono λ _ _ ⟨p,he,hp,hs⟩=>⟨p,he,hp,SF.aCM hs⟩
end

/- Nodes of memories: New, Node, Alloc. -/
end Go.Proofs.YtadnboagdhcedaaGreatDoor
namespace Go.Ct
section
def dH:aI:=⟨{Nd.zero with kind:=1},[],[]⟩
def aA(L:List aI)(r:Int):aI:=if 1<=r/\r<=L.length then L.getD (r-1).toNat aI.zero else aI.zero
theorem rV{L:List aI}{r:Int}(h:¬(1<=r/\r<=L.length)):aA L r=aI.zero:=if_neg h
theorem fG{L:List aI}{k:Nat}(h:k<L.length):aA L ((k+1:Nat):Int)=L.getD k aI.zero:=by
 unfold aA
 rw[if_pos (by omega),show(((k+1:Nat):Int)-1).toNat=k by omega]
def yk(L:List aI):List aI:=dH::dH::L
theorem j5:dH.Fit:=⟨rfl,rfl,by decide,by decide⟩
theorem Jz{L:List aI}(h:Fits L)(r:Int):(aA L r).Fit:=by
 unfold aA
 split
 ·rename_i hr
  exact h.at (by omega)
 ·exact Rh
structure AX where
 pn:Option Addr
 cn:Nat
 pc:Option Addr
 cc:Nat
 b1:Option Addr
 c1:Nat
 b2:Option Addr
 c2:Nat
def kU(k:Int)(cs:List Int)(init:Int):List Int:=if k=2∨k=3∨k=5∨k=6∨k=8 then cs++[init] else cs
def lW(n:Nd)(xs:List Int)(ys:List Pr)(c:Nat)(x:AX):aI :=
 aI.mk {n with main:=if n.kind=2 then((c+1:Nat):Int) else 0,prev:=if n.kind=3∨n.kind=5∨n.kind=6 then((c+1:Nat):Int) else 0,status:=if n.kind=8 then((c+1:Nat):Int) else 0,brA:=x.b1,brN:=xs.length,brC:=x.c1,prA:=x.b2,prN:=ys.length,dK:=x.c2} xs ys
theorem Dx{k:Int}{cs:List Int}{init:Int}:cs.length<=(kU k cs init).length/\(kU k cs init).length<=cs.length+1:=by unfold kU;split<;>simp
theorem Kx{n:Nd}{xs:List Int}{ys:List Pr}{c:Nat}{x:AX}(h1:xs.length<=35184372088832)(h2:ys.length<=11728124029610):(lW n xs ys c x).Fit:=⟨rfl,rfl,h1,h2⟩
def aI.at_(v:aI)(p q:Option Addr):aI:=⟨{v.nd with brA:=p,brC:=v.xs.length,prA:=q,dK:=v.ys.length},v.xs,v.ys⟩
theorem aI.zd{v:aI}(h:v.Fit)(p q:Option Addr):(v.at_ p q).Fit:=⟨h.brN,h.prN,h.brS,h.prS⟩
end
end Go.Ct
namespace Go.Proofs.YtadnboagdhcedaaGreatDoor
section
open Go.RowKit Go.Ct
variable{w:World}{D:List Nat}{b:Nat}{L:List aI}{cs:List Int}{gen acc:Int}{pn pc:Option Addr}{cn cc:Nat}{A:Fr}
theorem Tv(w:World):Calls Tryz.prog 22 #[] w λ e w'=>∃q:Nat×Option Addr,e=.returned (.pointer (some ⟨q.1,0,none⟩))/\True /\
  SF w [] [(q.1,mO [dH,dH] [] 0 0 q.2 2 none 0)] [] [] (mW [dH,dH] [] q.2 2 none 0) w':=by
 refine enter Tryz.func22 Tryz.ntmps22 rfl rfl (SF.s0 w) ?_;simp only[cP]
 refine cR ?_;refine J0 ?_;refine bQ ?_;refine bQ ?_;refine aS (Sj (c:=2) (sz:=14) rfl (λ _=>cX rZ Ih rfl rfl rfl rfl (by simp only[D7,nJ,List.cons_append,List.nil_append];exact rfl))) (λ x3=>?_);refine bQ ?_;refine bQ ?_;refine bF (λ x6=>?_);refine J1 ?_;refine aR Tryz.results22 (λ w hw=>?_);exact⟨(x6,some ⟨x3,0,none⟩),rfl,trivial,(SF.Oj (hw.kS 62 1)).aQ⟩
theorem jt(hs:SF w D [(b,mO L cs gen acc pn cn pc cc)] A [] (mW L cs pn cn pc cc) w)(r:Int)(hr:r<1):Calls Tryz.prog 144 #[.pointer (some ⟨b,0,none⟩),.int .i64 r] w λ e w'=>∃q:Unit,e=.returned (aA L r).nd.v/\True /\
  SF w D [(b,mO L cs gen acc pn cn pc cc)] [] [] (mW L cs pn cn pc cc) w':=by
 refine enter Tryz.func144 Tryz.ntmps144 rfl rfl (zD hs) ?_;simp only[cP]
 refine J0 ?_;refine K2a ?_;intro x4;(refine eM 7 (λ g7=>?_) (λ g7=>?_)<;>(try (exfalso;omega))<;>(refine aJ ?_));refine y6 ?_;refine Ke8 ?_;refine bA (λ c16=>?_) (λ c16=>?_)
 ·try (exfalso;omega)
  refine Ke0 ?_;refine bK Tryz.results144 (λ w hw=>?_);exact⟨(),by rw[rV (by omega)];rfl,trivial,hw.aQ⟩
 ·exact nv c16
theorem ly(hs:SF w D [(b,mO L cs gen acc pn cn pc cc)] A [] (mW L cs pn cn pc cc) w){k:Nat}(hk:(k:Int)<9223372036854775807)(hl:L.length<=274877906944):Calls Tryz.prog 144 #[.pointer (some ⟨b,0,none⟩),.int .i64 ((k+1:Nat):Int)] w λ e w'=>∃q:Unit,e=.returned (aA L ((k+1:Nat):Int)).nd.v/\True /\
  SF w D [(b,mO L cs gen acc pn cn pc cc)] [] [] (mW L cs pn cn pc cc) w':=by
 refine enter Tryz.func144 Tryz.ntmps144 rfl rfl (zD hs) ?_;simp only[cP]
 refine J0 ?_;refine K2a ?_;intro x4;(refine Ka4 ?_);refine y6 ?_;refine Ke8 ?_;refine bA (λ c16=>?_) (λ c16=>?_)
 ·try (exfalso;omega)
  refine Ke0 ?_;refine bK Tryz.results144 (λ w hw=>?_);(exact⟨(),by rw[rV (by omega)];rfl,trivial,hw.aQ⟩)
 ·try (exfalso;omega)
  refine bB ?_;refine Ii ?_;refine J3 ?_;refine aB ?_;refine oQ ?_;refine Pb ?_;refine J5 ?_;refine bK Tryz.results144 (λ w hw=>?_);(exact⟨(),by rw[fG (by omega)];rfl,trivial,hw.aQ⟩)
theorem qw(hs:SF w D [(b,mO L cs gen acc pn cn pc cc)] A [] (mW L cs pn cn pc cc) w)(r:Int)(hr:r<=9223372036854775807)(hl:L.length<=274877906944):Calls Tryz.prog 144 #[.pointer (some ⟨b,0,none⟩),.int .i64 r] w λ e w'=>∃q:Unit,e=.returned (aA L r).nd.v/\True /\
  SF w D [(b,mO L cs gen acc pn cn pc cc)] [] [] (mW L cs pn cn pc cc) w':=by
 rcases Int.lt_or_le r 1 with h|h
 ·exact jt hs r h
 ·obtain⟨k,rfl⟩:∃k:Nat,r=((k+1:Nat):Int):=⟨(r-1).toNat,by omega⟩
  exact ly hs (by omega) hl
end

/- Alloc of the two memories. -/
section
open Go.RowKit Go.Ct
variable{w:World}{D:List Nat}{b:Nat}{L:List aI}{cs:List Int}{gen acc:Int}{pn pc:Option Addr}{cn cc:Nat}{A:Fr}
theorem oK{n:Nd}{xs:List Int}{ys:List Pr}(init:Int)(hs:SF w D [(b,mO L cs gen acc pn cn pc cc)] [(n.brA,aH xs),(n.prA,dK ys)] [] (mW L cs pn cn pc cc) w)(e1:n.brN=xs.length)(e2:n.prN=ys.length)(h1:xs.length<=274877906944)(h2:ys.length<=274877906944)
  (hl:L.length<=274877906944) (hc:cs.length<=274877906944) :
  Calls Tryz.prog 32 #[.pointer (some ⟨b,0,none⟩),n.v,.int .i64 init] w λ e w'=>∃x:AX,e=.returned (.int .i64 ((L.length+1:Nat):Int))/\True /\
   SF w D [(b,mO (L++[lW n xs ys cs.length x]) (kU n.kind cs init) gen acc x.pn x.cn x.pc x.cc)] [] (lW n xs ys cs.length x).fr (mW (L++[lW n xs ys cs.length x]) (kU n.kind cs init) x.pn x.cn x.pc x.cc) w':=by
 refine enter Tryz.func32 Tryz.ntmps32 rfl rfl (zD hs) ?_;simp only[cP]
 simp only[Nd.v,Nd.cells]
 refine J0 ?_;refine bF (λ x4=>?_);refine J1 ?_;refine J0 ?_;refine aC ?_;refine nY (λ _=>?_);refine aC ?_;refine nY (λ _=>?_);refine zV ?_;refine Ce ?_;refine Kd4 ?_;refine bA (λ c12=>?_) (λ c12=>?_)
 ·try (exfalso;omega)
  refine Il ?_;refine aD (cM (hc:=λ w hs=>kH init hs hc)) (λ x16 h16=>?_);refine zV ?_;refine eX ?_;refine J0 ?_;refine iN (λ x32=>?_);refine J3 ?_;(refine fB (λ x35=>?_);try (refine fL (λ h35=>?_)));refine K2c ?_;intro x37;(refine fB (λ x40=>?_);try (refine fL (λ h40=>?_)));refine K0i ?_;refine dA (h:=λ x49=>?_);((refine cA (i:=8) (hq:=(aX.gA (iY (sz:=14) rf rf fT (by rw[eT]) fin rfl rfl Yi rfl (by decide) eC om) fM)) (h:=λ x50=>?_);try (refine dO (λ h50=>?_))));refine K0m ?_;intro w hw h2;simp only[rR,List.nil_append] at h2
  refine K1g ?_;intro h3;exact⟨⟨x50.1,x50.2,x16.1,x16.2,x35.1,x35.2,x40.1,x40.2⟩,rfl,trivial,by simpa[mO,aO,mW,lW,aI.fr,kU,qF,Nd.cells, *] using h3⟩
 ·try (exfalso;omega)
  refine aV ?_;refine jM ?_;refine bA (λ c18=>?_) (λ c18=>?_)
  ·try (exfalso;omega)
   refine bB ?_;refine bA (λ c18=>?_) (λ c18=>?_)
   ·try (exfalso;omega)
    refine K1q ?_;intro x24 h24 x32;(refine fB (λ x35=>?_);try (refine fL (λ h35=>?_)));refine K2c ?_;intro x37;(refine fB (λ x40=>?_);try (refine fL (λ h40=>?_)));refine K0i ?_;refine dA (h:=λ x49=>?_);((refine cA (i:=8) (hq:=(aX.gA (iY (sz:=14) rf rf fT (by rw[eT]) fin rfl rfl Yi rfl (by decide) eC om) fM)) (h:=λ x50=>?_);try (refine dO (λ h50=>?_))));refine K0m ?_;intro w hw h2;simp only[rR,List.nil_append] at h2
    refine K1g ?_;intro h3;exact⟨⟨x50.1,x50.2,x24.1,x24.2,x35.1,x35.2,x40.1,x40.2⟩,rfl,trivial,by simpa[mO,aO,mW,lW,aI.fr,kU,qF,Nd.cells, *] using h3⟩
   ·try (exfalso;omega)
  ·try (exfalso;omega)
   refine jM ?_;refine bA (λ c18=>?_) (λ c18=>?_)
   ·try (exfalso;omega)
    refine bB ?_;refine bA (λ c18=>?_) (λ c18=>?_)
    ·try (exfalso;omega)
     refine K1q ?_;intro x24 h24 x32;(refine fB (λ x35=>?_);try (refine fL (λ h35=>?_)));refine K2c ?_;intro x37;(refine fB (λ x40=>?_);try (refine fL (λ h40=>?_)));refine K0i ?_;refine dA (h:=λ x49=>?_);((refine cA (i:=8) (hq:=(aX.gA (iY (sz:=14) rf rf fT (by rw[eT]) fin rfl rfl Yi rfl (by decide) eC om) fM)) (h:=λ x50=>?_);try (refine dO (λ h50=>?_))));refine K0m ?_;intro w hw h2;simp only[rR,List.nil_append] at h2
     refine K1g ?_;intro h3;exact⟨⟨x50.1,x50.2,x24.1,x24.2,x35.1,x35.2,x40.1,x40.2⟩,rfl,trivial,by simpa[mO,aO,mW,lW,aI.fr,kU,qF,Nd.cells, *] using h3⟩
    ·try (exfalso;omega)
   ·try (exfalso;omega)
    refine dM ?_;refine Oa ?_;refine bA (λ c18=>?_) (λ c18=>?_)
    ·try (exfalso;omega)
     refine K1q ?_;intro x24 h24 x32;(refine fB (λ x35=>?_);try (refine fL (λ h35=>?_)));refine K2c ?_;intro x37;(refine fB (λ x40=>?_);try (refine fL (λ h40=>?_)));refine K0i ?_;refine dA (h:=λ x49=>?_);((refine cA (i:=8) (hq:=(aX.gA (iY (sz:=14) rf rf fT (by rw[eT]) fin rfl rfl Yi rfl (by decide) eC om) fM)) (h:=λ x50=>?_);try (refine dO (λ h50=>?_))));refine K0m ?_;intro w hw h2;simp only[rR,List.nil_append] at h2
     refine K1g ?_;intro h3;exact⟨⟨x50.1,x50.2,x24.1,x24.2,x35.1,x35.2,x40.1,x40.2⟩,rfl,trivial,by simpa[mO,aO,mW,lW,aI.fr,kU,qF,Nd.cells, *] using h3⟩
    ·try (exfalso;omega)
     refine jM ?_;refine bA (λ c26=>?_) (λ c26=>?_)
     ·try (exfalso;omega)
      refine Il ?_;refine aD (cM (hc:=λ w hs=>kH init hs hc)) (λ x30 h30=>?_);refine zV ?_;refine eX ?_;refine J0 ?_;refine iN (λ x32=>?_);refine J3 ?_;(refine fB (λ x35=>?_);try (refine fL (λ h35=>?_)));refine K2c ?_;intro x37;(refine fB (λ x40=>?_);try (refine fL (λ h40=>?_)));refine K0i ?_;refine dA (h:=λ x49=>?_);((refine cA (i:=8) (hq:=(aX.gA (iY (sz:=14) rf rf fT (by rw[eT]) fin rfl rfl Yi rfl (by decide) eC om) fM)) (h:=λ x50=>?_);try (refine dO (λ h50=>?_))));refine K0m ?_;intro w hw h2;simp only[rR,List.nil_append] at h2
      refine K1g ?_;intro h3;exact⟨⟨x50.1,x50.2,x30.1,x30.2,x35.1,x35.2,x40.1,x40.2⟩,rfl,trivial,by simpa[mO,aO,mW,lW,aI.fr,kU,qF,Nd.cells, *] using h3⟩
     ·try (exfalso;omega)
      refine kN ?_;refine J0 ?_;refine iN (λ x32=>?_);refine J3 ?_;(refine fB (λ x35=>?_);try (refine fL (λ h35=>?_)));refine K2c ?_;intro x37;(refine fB (λ x40=>?_);try (refine fL (λ h40=>?_)));refine K0i ?_;refine dA (h:=λ x49=>?_);((refine cA (i:=8) (hq:=(aX.gA (iY (sz:=14) rf rf fT (by rw[eT]) fin rfl rfl Yi rfl (by decide) eC om) fM)) (h:=λ x50=>?_);try (refine dO (λ h50=>?_))));refine K0m ?_;intro w hw h2;simp only[rR,List.nil_append] at h2
      refine K1g ?_;intro h3;exact⟨⟨x50.1,x50.2,pc,cc,x35.1,x35.2,x40.1,x40.2⟩,rfl,trivial,by simpa[mO,aO,mW,lW,aI.fr,kU,qF,Nd.cells, *] using h3⟩
end

/- Nodes of the program's arena are read; lists are cloned; the state is read. -/
end Go.Proofs.YtadnboagdhcedaaGreatDoor
namespace Go.Ct
section
theorem Cl.fv{w:Go.World}{cs:List Go.Value}(h:Cl w none cs):cs=[]:=by
 cases cs with
 | nil=>rfl
 | cons v r=>exact absurd (h.ptr (by simp)) (by simp)
theorem Xe{l:List Int}(h:aH l=[]):l=[]:=by simpa[aH] using h
end
end Go.Ct
namespace Go.Proofs.YtadnboagdhcedaaGreatDoor
section
open Go.RowKit Go.Ct
variable{w:World}{D:List Nat}{b:Nat}{L:List aI}{cs:List Int}{gen acc:Int}{pn pc:Option Addr}{cn cc:Nat}{A:Fr}
theorem S4{l:List Int}{a:Option Addr}{c:Nat}{w:World}(ha:Cl w a (aH l))(hl:l.length<=274877906944):Calls Tryz.prog 97 #[.slice a l.length c] w λ e w' =>
  ∃x:Option Addr×Nat,e=.returned (.slice x.1 l.length x.2)/\True/\SF w [] [] [] [] [⟨x.1,aH l,x.2,62,1⟩] w':=by
 refine enter Tryz.func97 Tryz.ntmps97 rfl rfl (SF.s1 ha) ?_;simp only[cP]
 refine Kb4 ?_;refine rW ?_;refine bA (λ c4=>?_) (λ c4=>?_)
 ·have e0:a=none:=by cases a with|none=>rfl|some _=>cases c4
  subst e0
  obtain rfl:=Xe ha.fv
  refine cR ?_;refine aR Tryz.results97 (λ w hw=>?_);exact⟨(none,0),rfl,trivial,(hw.kS 62 1).aQ⟩
 ·refine bB ?_;refine J0 ?_;refine iN (λ x5=>?_);refine aB ?_;(refine fB (λ x7=>?_);try (refine fL (λ h7=>?_)));refine J1 ?_;refine aR Tryz.results97 (λ w hw=>?_);exact⟨x7,by simp only[Nat.zero_add];rfl,trivial,by simpa using hw.aQ (F':=[]) (H':=[])⟩
end

/- The arena's state is read. -/
section
open Go.RowKit Go.Ct
variable{w:World}{D:List Nat}{b:Nat}{L:List aI}{cs:List Int}{gen acc:Int}{pn pc:Option Addr}{cn cc:Nat}{A:Fr}
end

/- Lists and the smallest functions of nodes. -/
section
open Go.RowKit Go.Ct
theorem aAY(n:Nd)(w:World):Calls Tryz.prog 158 #[n.v] w λ e w'=>e=.returned n.own.v/\St w [] [] w':=by
 refine enter Tryz.func158 Tryz.ntmps158 rfl rfl (SF.s0 w) ?_;simp only[cP]
 refine K1k ?_;intro x1;refine aT (λ x2=>?_);refine aK ?_;refine gH ?_;refine bQ ?_;refine aT (λ x3=>?_);refine Ke6 ?_;refine Kc3 ?_;refine Ez ?_;refine Ez ?_;refine Ez ?_;refine Ez ?_;refine Ez ?_;refine Ez ?_;refine Ez ?_;refine aV ?_;refine aV ?_;refine jM ?_;refine bA (λ c9=>?_) (λ c9=>?_)
 ·refine bM rfl ?_;refine aV ?_;refine dZ [(0,[]),(1,[]),(2,[]),(3,[]),(4,[]),(5,[3]),(6,[]),(7,[])] ?_;refine Ke2 ?_;refine aN ?_;refine T9 ?_;refine vF ?_;refine bM rfl ?_;refine Kb5 ?_;refine bK Tryz.results158 (λ w hw=>?_);exact⟨by simp only[Nd.own,beq_iff_eq, *,if_true,if_false];rfl,hw.done⟩
 ·refine jH ?_;refine jM ?_;refine bA (λ c11=>?_) (λ c11=>?_)
  ·refine bM rfl ?_;refine K0j ?_;intro w hw;exact⟨by simp only[Nd.own,beq_iff_eq, *,if_true,if_false];rfl,hw.done⟩
  ·refine jH ?_;refine jM ?_;refine bA (λ c13=>?_) (λ c13=>?_)
   ·refine bM rfl ?_;refine dM ?_;refine J3 ?_;refine zV ?_;refine eX ?_;refine K0j ?_;intro w hw;exact⟨by simp only[Nd.own,beq_iff_eq, *,if_true,if_false];rfl,hw.done⟩
   ·refine jH ?_;refine jM ?_;refine bA (λ c15=>?_) (λ c15=>?_)
    ·refine bM rfl ?_;refine K0j ?_;intro w hw;exact⟨by simp only[Nd.own,beq_iff_eq, *,if_true,if_false];rfl,hw.done⟩
    ·refine jH ?_;refine jM ?_;refine bA (λ c17=>?_) (λ c17=>?_)
     ·refine bM rfl ?_;refine K0j ?_;intro w hw;exact⟨by simp only[Nd.own,beq_iff_eq, *,if_true,if_false];rfl,hw.done⟩
     ·refine jH ?_;refine jM ?_;refine bA (λ c19=>?_) (λ c19=>?_)
      ·refine bM rfl ?_;refine dZ [(0,[]),(1,[]),(2,[]),(3,[]),(4,[]),(5,[]),(6,[]),(7,[3,5]),(8,[]),(9,[5]),(10,[]),(11,[])] ?_;refine Ke2 ?_;refine iT ?_;refine aN ?_;refine T9 ?_;refine T9 ?_;refine vF ?_;refine eX ?_;refine gH ?_;refine zV ?_;refine bM rfl ?_;refine Kb5 ?_;refine bK Tryz.results158 (λ w hw=>?_);exact⟨by simp only[Nd.own,beq_iff_eq, *,if_true,if_false];rfl,hw.done⟩
      ·refine bB ?_;refine jM ?_;refine bA (λ c21=>?_) (λ c21=>?_)
       ·refine bM rfl ?_;refine gH ?_;refine zV ?_;refine bM rfl ?_;refine Kb5 ?_;refine bK Tryz.results158 (λ w hw=>?_);exact⟨by simp only[Nd.own,beq_iff_eq, *,if_true,if_false];rfl,hw.done⟩
       ·refine bB ?_;refine bM rfl ?_;refine Kb5 ?_;refine bK Tryz.results158 (λ w hw=>?_);exact⟨by simp only[Nd.own,beq_iff_eq, *,if_true,if_false];rfl,hw.done⟩
end

end Go.Proofs.YtadnboagdhcedaaGreatDoor
