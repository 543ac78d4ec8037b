/- Loops over slices that are read: contracts. -/
import Derived.Test.YtbajmaoegmbfgaaGreatGMem
import Derived.Test.YtbajmaoegmbfgaaGreatAuto

set_option linter.unusedSimpArgs false
set_option linter.unusedVariables false
namespace Go.Proofs.YtbajmaoegmbfgaaGreat
section
open Go.RowKit Go.Ct
theorem C8{α} [BEq α] [LawfulBEq α] {xs ys:List α}{k:Nat}(h:xs.length=ys.length)(hk:¬k<xs.length)(ht:xs.take k=ys.take k):(xs==ys)=true:=by
 rw[List.take_of_length_le (by omega),List.take_of_length_le (by omega)] at ht
 simp[ht]
theorem Fj{α} [BEq α] [LawfulBEq α] {xs ys:List α}(h:xs.length≠ys.length):(xs==ys)=false:=by
 simp only[beq_eq_false_iff_ne,ne_eq]
 intro e;rw[e] at h;exact h rfl
theorem Gg{α} [BEq α] [LawfulBEq α] {xs ys:List α}{k:Nat}{d:α}(h:xs.getD k d≠ys.getD k d):(xs==ys)=false:=by
 simp only[beq_eq_false_iff_ne,ne_eq]
 intro e;rw[e] at h;exact h rfl
theorem C4{α} [DecidableEq α] {xs ys:List α}{k:Nat}(h:xs.length=ys.length)(hk:¬k<xs.length)(ht:xs.take k=ys.take k):decide (xs=ys)=true:=by
 rw[List.take_of_length_le (by omega),List.take_of_length_le (by omega)] at ht
 simp[ht]
theorem G9{α} [DecidableEq α] {xs ys:List α}(h:xs.length≠ys.length):decide (xs=ys)=false:=decide_eq_false λ e=>h (by rw[e])
theorem Hg{α} [DecidableEq α] {xs ys:List α}{k:Nat}{d:α}(h:xs.getD k d≠ys.getD k d):decide (xs=ys)=false:=decide_eq_false λ e=>h (by rw[e])
theorem xP{α}{xs ys:List α}{k:Nat}{d:α}(h:xs.take k=ys.take k)(hk:k<xs.length)(hl:xs.length=ys.length)(he:xs.getD k d=ys.getD k d):xs.take (k+1)=ys.take (k+1):=by
 rw[List.take_add_one,List.take_add_one,h,List.getElem?_eq_getElem hk,List.getElem?_eq_getElem (hl▸hk)]
 simp only[List.getD,List.getElem?_eq_getElem hk,List.getElem?_eq_getElem (hl▸hk:k<ys.length),Option.getD_some] at he
 rw[he]
theorem ng{xs ys:List Int}{a b:Option Addr}{ca cb:Nat}{w:World}(ha:Cl w a (aG xs))(hb:Cl w b (aG ys))(hx:xs.length<4611686018427387904) :
  Calls Tryz.prog 112 #[.slice a xs.length ca,.slice b ys.length cb] w λ e w'=>e=.returned (.bool (xs==ys))/\St w [] [] w':=by
 refine enter Tryz.func112 Tryz.ntmps112 rfl rfl (SF.s2 ha hb) ?_
 simp only[bY]
 refine cR ?_;refine kM ?_;refine dI ?_;refine aA ?_;refine dI ?_;refine qA ?_;refine aH ?_
 refine bE (λ c10=>?_) (λ c10=>?_)
 ·refine cR ?_
  refine aT Tryz.results112 (λ w hw=>?_)
  exact⟨by rw[Fj (by omega)];rfl,hw.done⟩
 ·refine lA ?_;refine Fs ?_
  refine fF [4,5,11,12,13,14,15,16,17,18,19,20,21,22,23,24,25] (λ k=>[(5,.int .i64 ((k:Nat):Int))]) (λ k=>k<=xs.length/\xs.take k=ys.take k) (λ k=>xs.length-k) (0) (⟨Nat.zero_le _,by simp⟩) ?_ (λ k f hx=>?_)
  ·repeat (first|exact bG _|refine bA (by exact rfl) ?_)
  dsimp only[gR,List.map,List.cons_append,List.nil_append]
  refine Df ?_;refine dI ?_;refine vX ?_
  refine bE (λ c14=>?_) (λ c14=>?_)
  ·refine qI ?_;refine aV ?_;refine gJ [0,1,2,3,4,5,6,7,8] ?_;refine hZ ?_;refine Oa ?_;refine hZ ?_;refine Oa ?_;refine Nk ?_;refine eC ?_
   refine bE (λ c25=>?_) (λ c25=>?_)
   ·refine cR ?_
    refine aT Tryz.results112 (λ w hw=>?_)
    exact⟨by rw[Gg c25];rfl,hw.done⟩
   ·refine oB ?_;refine yH ?_
    refine dY (k+1) ?_ ?_ ?_
    ·omega
    ·repeat' (first|exact bG _|refine bA ?_ ?_)
     exact rfl
    ·exact⟨by omega,xP hx.2 (by omega) (by omega) c25⟩
  ·refine bM rfl ?_;refine cR ?_
   refine aT Tryz.results112 (λ w hw=>?_)
   exact⟨by rw[C8 (k:=k) (by omega) (by omega) hx.2];rfl,hw.done⟩
theorem aAQ{xs ys:List Pr}{a b:Option Addr}{ca cb:Nat}{w:World}(ha:Cl w a (dH xs))(hb:Cl w b (dH ys))(hx:xs.length<4611686018427387904) :
  Calls Tryz.prog 155 #[.slice a xs.length ca,.slice b ys.length cb] w λ e w'=>e=.returned (.bool (decide (xs=ys)))/\St w [] [] w':=by
 refine enter Tryz.func155 Tryz.ntmps155 rfl rfl (SF.s2 ha hb) ?_
 simp only[bY]
 refine cR ?_;refine kM ?_;refine dI ?_;refine aA ?_;refine dI ?_;refine qA ?_;refine aH ?_
 refine bE (λ c10=>?_) (λ c10=>?_)
 ·refine cR ?_
  refine aT Tryz.results155 (λ w hw=>?_)
  exact⟨by rw[G9 (by omega)];rfl,hw.done⟩
 ·refine lA ?_;refine Fs ?_
  refine fF [4,5,11,12,13,14,15,16,17,18,19,20,21,22,23,24,25] (λ k=>[(5,.int .i64 ((k:Nat):Int))]) (λ k=>k<=xs.length/\xs.take k=ys.take k) (λ k=>xs.length-k) (0) (⟨Nat.zero_le _,by simp⟩) ?_ (λ k f hx=>?_)
  ·repeat (first|exact bG _|refine bA (by exact rfl) ?_)
  dsimp only[gR,List.map,List.cons_append,List.nil_append]
  refine Df ?_;refine dI ?_;refine vX ?_
  refine bE (λ c14=>?_) (λ c14=>?_)
  ·refine qI ?_;refine aV ?_;refine gJ [0,1,2,3,4,5,6,7,8] ?_;refine hZ ?_;refine Oa ?_;refine hZ ?_;refine Oa ?_;refine Vf ?_;refine eC ?_
   refine bE (λ c25=>?_) (λ c25=>?_)
   ·refine cR ?_
    refine aT Tryz.results155 (λ w hw=>?_)
    exact⟨by rw[Hg λ h=>c25 ⟨congrArg Prod.fst h,congrArg Prod.snd h⟩];rfl,hw.done⟩
   ·refine oB ?_;refine yH ?_
    refine dY (k+1) ?_ ?_ ?_
    ·omega
    ·repeat' (first|exact bG _|refine bA ?_ ?_)
     exact rfl
    ·exact⟨by omega,xP hx.2 (by omega) (by omega) (Prod.ext c25.1 c25.2)⟩
  ·refine bM rfl ?_;refine cR ?_
   refine aT Tryz.results155 (λ w hw=>?_)
   exact⟨by rw[C4 (k:=k) (by omega) (by omega) hx.2];rfl,hw.done⟩
theorem pz{xs ys:List Int}{a b:Option Addr}{ca cb:Nat}{w:World}(ha:Cl w a (aG xs))(hb:Cl w b (aG ys))(hx:xs.length<4611686018427387904) :
  Calls Tryz.prog 236 #[.slice a xs.length ca,.slice b ys.length cb] w λ e w'=>e=.returned (.bool (xs==ys))/\St w [] [] w':=by
 refine enter Tryz.func236 Tryz.ntmps236 rfl rfl (SF.s2 ha hb) ?_
 simp only[bY]
 refine cR ?_;refine kM ?_;refine dI ?_;refine aA ?_;refine dI ?_;refine qA ?_;refine aH ?_
 refine bE (λ c10=>?_) (λ c10=>?_)
 ·refine cR ?_
  refine aT Tryz.results236 (λ w hw=>?_)
  exact⟨by rw[Fj (by omega)];rfl,hw.done⟩
 ·refine lA ?_;refine J2 ?_;refine dI ?_;refine Af ?_;refine cI ?_
  refine fF [4,5,13,14,15,16,17,18,19,20,21,22,23,24,25] (λ k=>[(13,.int .i64 ((k:Nat):Int))]) (λ k=>k<=xs.length/\xs.take k=ys.take k) (λ k=>xs.length-k) (0) (⟨Nat.zero_le _,by simp⟩) ?_ (λ k f hx=>?_)
  ·repeat (first|exact bG _|refine bA (by exact rfl) ?_)
  dsimp only[gR,List.map,List.cons_append,List.nil_append]
  refine J0 ?_;refine vX ?_;refine aV ?_
  refine bE (λ c14=>?_) (λ c14=>?_)
  ·refine qI ?_;refine J2 ?_;refine iZ ?_;refine gJ [0,1,2,3,4,5,6,7,8] ?_;refine hZ ?_;refine Oa ?_;refine hZ ?_;refine Oa ?_;refine Nk ?_;refine eC ?_
   refine bE (λ c24=>?_) (λ c24=>?_)
   ·refine cR ?_
    refine aT Tryz.results236 (λ w hw=>?_)
    exact⟨by rw[Gg c24];rfl,hw.done⟩
   ·refine oB ?_;refine Rt ?_;refine Af ?_
    refine dY (k+1) ?_ ?_ ?_
    ·omega
    ·repeat' (first|exact bG _|refine bA ?_ ?_)
     exact rfl
    ·exact⟨by omega,xP hx.2 (by omega) (by omega) c24⟩
  ·refine bM rfl ?_;refine cR ?_
   refine aT Tryz.results236 (λ w hw=>?_)
   exact⟨by rw[C8 (k:=k) (by omega) (by omega) hx.2];rfl,hw.done⟩
theorem xa{xs ys:List Pr}{a b:Option Addr}{ca cb:Nat}{w:World}(ha:Cl w a (dH xs))(hb:Cl w b (dH ys))(hx:xs.length<4611686018427387904) :
  Calls Tryz.prog 237 #[.slice a xs.length ca,.slice b ys.length cb] w λ e w'=>e=.returned (.bool (decide (xs=ys)))/\St w [] [] w':=by
 refine enter Tryz.func237 Tryz.ntmps237 rfl rfl (SF.s2 ha hb) ?_
 simp only[bY]
 refine cR ?_;refine kM ?_;refine dI ?_;refine aA ?_;refine dI ?_;refine qA ?_;refine aH ?_
 refine bE (λ c10=>?_) (λ c10=>?_)
 ·refine cR ?_
  refine aT Tryz.results237 (λ w hw=>?_)
  exact⟨by rw[G9 (by omega)];rfl,hw.done⟩
 ·refine lA ?_;refine J2 ?_;refine dI ?_;refine Af ?_;refine cI ?_
  refine fF [4,5,13,14,15,16,17,18,19,20,21,22,23,24,25] (λ k=>[(13,.int .i64 ((k:Nat):Int))]) (λ k=>k<=xs.length/\xs.take k=ys.take k) (λ k=>xs.length-k) (0) (⟨Nat.zero_le _,by simp⟩) ?_ (λ k f hx=>?_)
  ·repeat (first|exact bG _|refine bA (by exact rfl) ?_)
  dsimp only[gR,List.map,List.cons_append,List.nil_append]
  refine J0 ?_;refine vX ?_;refine aV ?_
  refine bE (λ c14=>?_) (λ c14=>?_)
  ·refine qI ?_;refine J2 ?_;refine iZ ?_;refine gJ [0,1,2,3,4,5,6,7,8] ?_;refine hZ ?_;refine Oa ?_;refine hZ ?_;refine Oa ?_;refine Vf ?_;refine eC ?_
   refine bE (λ c24=>?_) (λ c24=>?_)
   ·refine cR ?_
    refine aT Tryz.results237 (λ w hw=>?_)
    exact⟨by rw[Hg λ h=>c24 ⟨congrArg Prod.fst h,congrArg Prod.snd h⟩];rfl,hw.done⟩
   ·refine oB ?_;refine Rt ?_;refine Af ?_
    refine dY (k+1) ?_ ?_ ?_
    ·omega
    ·repeat' (first|exact bG _|refine bA ?_ ?_)
     exact rfl
    ·exact⟨by omega,xP hx.2 (by omega) (by omega) (Prod.ext c24.1 c24.2)⟩
  ·refine bM rfl ?_;refine cR ?_
   refine aT Tryz.results237 (λ w hw=>?_)
   exact⟨by rw[C4 (k:=k) (by omega) (by omega) hx.2];rfl,hw.done⟩
end

/- Nodes are compared. -/
section
open Go.RowKit Go.Ct
theorem Wy{a b:Nd}{x1 x2:List Int}{y1 y2:List Pr}{w:World}(ha:qS w a x1 y1)(hb:qS w b x2 y2) :
  Calls Tryz.prog 113 #[a.v,b.v] w λ e w'=>∃r:Bool,e=.returned (.bool r)/\(r=true↔rS a b x1 x2 y1 y2)/\St w [] [] w':=by
 have e1:=ha.brN;have e2:=hb.brN;have e3:=ha.prN;have e4:=hb.prN
 refine enter Tryz.func113 Tryz.ntmps113 rfl rfl (SF.s0 w) ?_
 simp only[bY]
 refine J0 ?_;refine bO (λ x2=>?_);refine bO (λ x3=>?_);refine iZ ?_;refine gZ ?_;refine J3 ?_;refine qA ?_;refine aA ?_
 (refine eM 10 (λ g10=>?_) (λ g10=>?_)<;>(first|refine aJ ?_|(refine aF ?_;refine aE ?_)))
 all_goals (refine Bj ?_;refine Ru ?_;refine aA ?_)
 all_goals (first|refine aJ ?_|(refine eM 17 (λ g17=>?_) (λ g17=>?_)<;>(first|refine aJ ?_|(refine aF ?_;refine aE ?_))))
 all_goals (refine Bj ?_;refine Ru ?_;refine aA ?_)
 all_goals (first|refine aJ ?_|(refine eM 24 (λ g24=>?_) (λ g24=>?_)<;>(first|refine aJ ?_|(refine aF ?_;refine aE ?_))))
 all_goals (refine Bj ?_;refine Ru ?_;refine aA ?_)
 all_goals (first|refine aJ ?_|(refine eM 31 (λ g31=>?_) (λ g31=>?_)<;>(first|refine aJ ?_|(refine aF ?_;refine aE ?_))))
 all_goals (refine Bj ?_;refine Ru ?_;refine aA ?_)
 all_goals (first|refine aJ ?_|(refine eM 38 (λ g38=>?_) (λ g38=>?_)<;>(first|refine aJ ?_|(refine aF ?_;refine aE ?_))))
 all_goals (refine Bj ?_;(first|refine aJ ?_|(refine aF ?_;refine u7 ?_));refine cH ?_;refine aA ?_)
 all_goals (first|refine aJ ?_|(refine eM 45 (λ g45=>?_) (λ g45=>?_)<;>(first|refine aJ ?_|(refine aF ?_;refine aE ?_))))
 all_goals (refine Bj ?_;refine Ru ?_;refine aH ?_)
 all_goals
 refine bE (λ c51=>?_) (λ c51=>?_)
 ·all_goals refine cR ?_
  all_goals
   refine aT Tryz.results113 (λ w hw=>?_)
   exact⟨_,rfl,by simp_all[rS],hw.done⟩
 ·try exact nv c51
  all_goals (refine bB ?_;refine gZ ?_;refine J3 ?_;refine aR (cV (hc:=λ w1 hw=>by simp only[e1,e2];exact ng (ha.br.fP hw.st) (hb.br.fP hw.st) ha.brS)) (λ x56=>?_);refine aA ?_)
  all_goals ((refine eM 57 (λ g57=>?_) (λ g57=>?_)<;>(first|refine aJ ?_|(refine aF ?_;refine aE ?_))))
  all_goals (refine Bj ?_;(first|refine aJ ?_|(refine aF ?_;refine aR (cV (hc:=λ w1 hw=>by simp only[e3,e4];exact aAQ (ha.pr.fP hw.st) (hb.pr.fP hw.st) ha.prS)) (λ x62=>?_)));refine cH ?_;refine aA ?_)
  all_goals (first|refine aJ ?_|(refine eM 64 (λ g64=>?_) (λ g64=>?_)<;>(first|refine aJ ?_|(refine aF ?_;refine aE ?_))))
  all_goals (refine Bj ?_;refine zR ?_;refine aA ?_)
  all_goals (first|refine aJ ?_|(refine eM 71 (λ g71=>?_) (λ g71=>?_)<;>(first|refine aJ ?_|(refine aF ?_;refine aE ?_))))
  all_goals (refine Bj ?_;refine zR ?_;refine aA ?_)
  all_goals (first|refine aJ ?_|(refine eM 78 (λ g78=>?_) (λ g78=>?_)<;>(first|refine aJ ?_|(refine aF ?_;refine aE ?_))))
  all_goals (refine Bj ?_;refine zR ?_;refine aA ?_)
  all_goals (first|refine aJ ?_|(refine eM 85 (λ g85=>?_) (λ g85=>?_)<;>(first|refine aJ ?_|(refine aF ?_;refine aE ?_))))
  all_goals (refine Bj ?_;refine zR ?_;refine aA ?_)
  all_goals (first|refine aJ ?_|(refine eM 92 (λ g92=>?_) (λ g92=>?_)<;>(first|refine aJ ?_|(refine aF ?_;refine aE ?_))))
  all_goals (refine Bj ?_;refine zR ?_;refine J1 ?_)
  all_goals
   refine aT Tryz.results113 (λ w hw=>?_)
   exact⟨_,rfl,by simp_all[rS],hw.done⟩
theorem z6{a b:Nd}{x1 x2:List Int}{y1 y2:List Pr}{w:World}(ha:qS w a x1 y1)(hb:qS w b x2 y2) :
  Calls Tryz.prog 196 #[a.v,b.v] w λ e w'=>∃r:Bool,e=.returned (.bool r)/\(r=true↔rS a b x1 x2 y1 y2)/\St w [] [] w':=by
 have e1:=ha.brN;have e2:=hb.brN;have e3:=ha.prN;have e4:=hb.prN
 refine enter Tryz.func196 Tryz.ntmps196 rfl rfl (SF.s0 w) ?_
 simp only[bY]
 refine J0 ?_;refine bO (λ x2=>?_);refine bO (λ x3=>?_);refine iZ ?_;refine Yk (by dsimp only[List.append]) ?_;refine J3 ?_;refine J3 ?_;refine mC ?_;refine aA ?_
 (refine eM 10 (λ g10=>?_) (λ g10=>?_)<;>(first|refine aJ ?_|(refine aF ?_;refine aE ?_)))
 all_goals (refine Bj ?_;refine zR ?_;refine aA ?_)
 all_goals (first|refine aJ ?_|(refine eM 17 (λ g17=>?_) (λ g17=>?_)<;>(first|refine aJ ?_|(refine aF ?_;refine aE ?_))))
 all_goals (refine Bj ?_;refine zR ?_;refine aA ?_)
 all_goals (first|refine aJ ?_|(refine eM 24 (λ g24=>?_) (λ g24=>?_)<;>(first|refine aJ ?_|(refine aF ?_;refine aE ?_))))
 all_goals (refine Bj ?_;refine zR ?_;refine aA ?_)
 all_goals (first|refine aJ ?_|(refine eM 31 (λ g31=>?_) (λ g31=>?_)<;>(first|refine aJ ?_|(refine aF ?_;refine aE ?_))))
 all_goals (refine Bj ?_;(first|refine aJ ?_|(refine aF ?_;refine aR (cV (hc:=λ w1 hw=>by simp only[e1,e2];exact pz (ha.br.fP hw.st) (hb.br.fP hw.st) ha.brS)) (λ x36=>?_)));refine cH ?_;refine aA ?_)
 all_goals (first|refine aJ ?_|(refine eM 38 (λ g38=>?_) (λ g38=>?_)<;>(first|refine aJ ?_|(refine aF ?_;refine aE ?_))))
 all_goals (refine Bj ?_;refine zR ?_;refine aA ?_)
 all_goals (first|refine aJ ?_|(refine eM 45 (λ g45=>?_) (λ g45=>?_)<;>(first|refine aJ ?_|(refine aF ?_;refine aE ?_))))
 all_goals (refine Bj ?_;(first|refine aJ ?_|(refine aF ?_;refine u6 ?_));refine cH ?_;refine aA ?_)
 all_goals (first|refine aJ ?_|(refine eM 52 (λ g52=>?_) (λ g52=>?_)<;>(first|refine aJ ?_|(refine aF ?_;refine aE ?_))))
 all_goals (refine Bj ?_;refine zR ?_;refine aA ?_)
 all_goals (first|refine aJ ?_|(refine eM 59 (λ g59=>?_) (λ g59=>?_)<;>(first|refine aJ ?_|(refine aF ?_;refine aE ?_))))
 all_goals (refine Bj ?_;(first|refine aJ ?_|(refine aF ?_;refine aR (cV (hc:=λ w1 hw=>by simp only[e3,e4];exact xa (ha.pr.fP hw.st) (hb.pr.fP hw.st) ha.prS)) (λ x64=>?_)));refine cH ?_;refine aA ?_)
 all_goals (first|refine aJ ?_|(refine eM 66 (λ g66=>?_) (λ g66=>?_)<;>(first|refine aJ ?_|(refine aF ?_;refine aE ?_))))
 all_goals (refine Bj ?_;refine zR ?_;refine aA ?_)
 all_goals (first|refine aJ ?_|(refine eM 73 (λ g73=>?_) (λ g73=>?_)<;>(first|refine aJ ?_|(refine aF ?_;refine aE ?_))))
 all_goals (refine Bj ?_;refine zR ?_;refine aA ?_)
 all_goals (first|refine aJ ?_|(refine eM 80 (λ g80=>?_) (λ g80=>?_)<;>(first|refine aJ ?_|(refine aF ?_;refine aE ?_))))
 all_goals (refine Bj ?_;refine zR ?_;refine aA ?_)
 all_goals (first|refine aJ ?_|(refine eM 87 (λ g87=>?_) (λ g87=>?_)<;>(first|refine aJ ?_|(refine aF ?_;refine aE ?_))))
 all_goals (refine Bj ?_;refine zR ?_;refine aA ?_)
 all_goals (first|refine aJ ?_|(refine eM 94 (λ g94=>?_) (λ g94=>?_)<;>(first|refine aJ ?_|(refine aF ?_;refine aE ?_))))
 all_goals (refine Bj ?_;refine zR ?_;refine J1 ?_)
 all_goals
 refine aT Tryz.results196 (λ w hw=>?_)
 exact⟨_,rfl,by simp_all[rS],hw.done⟩
theorem R6(a:Nd)(w:World):Calls Tryz.prog 80 #[a.v] w λ e w'=>∃r:Bool,e=.returned (.bool r)/\(r=true↔(a.kind=3∨a.kind=5∨a.kind=6))/\St w [] [] w':=by
 refine enter Tryz.func80 Tryz.ntmps80 rfl rfl (SF.s0 w) ?_
 simp only[bY]
 refine J0 ?_;refine bO (λ x1=>?_);refine iZ ?_;refine gZ ?_;refine aH ?_;refine cI ?_;refine aV ?_;refine lF ?_
 refine bE (λ c5=>?_) (λ c5=>?_)
 ·refine bB ?_
  refine bE (λ c5=>?_) (λ c5=>?_)
  ·refine cR ?_
   refine aT Tryz.results80 (λ w hw=>?_)
   exact⟨_,rfl,by simp_all,hw.done⟩
  ·refine oB ?_;refine cR ?_
   refine aT Tryz.results80 (λ w hw=>?_)
   exact⟨_,rfl,by simp_all,hw.done⟩
 ·refine lF ?_
  refine bE (λ c5=>?_) (λ c5=>?_)
  ·refine bB ?_
   refine bE (λ c5=>?_) (λ c5=>?_)
   ·refine cR ?_
    refine aT Tryz.results80 (λ w hw=>?_)
    exact⟨_,rfl,by simp_all,hw.done⟩
   ·refine oB ?_;refine cR ?_
    refine aT Tryz.results80 (λ w hw=>?_)
    exact⟨_,rfl,by simp_all,hw.done⟩
  ·refine dW ?_;refine Wb ?_
   refine bE (λ c5=>?_) (λ c5=>?_)
   ·refine cR ?_
    refine aT Tryz.results80 (λ w hw=>?_)
    exact⟨_,rfl,by simp_all,hw.done⟩
   ·refine oB ?_;refine cR ?_
    refine aT Tryz.results80 (λ w hw=>?_)
    exact⟨_,rfl,by simp_all,hw.done⟩
theorem Y7(a:Nd)(w:World):Calls Tryz.prog 41 #[a.v] w λ e w'=>∃r:Bool,e=.returned (.bool r)/\(r=true↔(a.kind=3∨a.kind=5∨a.kind=6))/\St w [] [] w':=by
 refine enter Tryz.func41 Tryz.ntmps41 rfl rfl (SF.s0 w) ?_
 simp only[bY]
 refine J0 ?_;refine bO (λ x1=>?_);refine J1 ?_;refine gZ ?_;refine mC ?_;refine aA ?_
 (refine eM 6 (λ g6=>?_) (λ g6=>?_)<;>(first|refine aJ ?_|(refine aF ?_;refine aE ?_)))
 all_goals (refine yd ?_;refine aA ?_)
 all_goals (first|refine aJ ?_|(refine eM 11 (λ g11=>?_) (λ g11=>?_)<;>(first|refine aJ ?_|(refine aF ?_;refine aE ?_))))
 all_goals (refine yd ?_;refine J1 ?_)
 all_goals
 refine aT Tryz.results41 (λ w hw=>?_)
 exact⟨_,rfl,by simp_all,hw.done⟩
end

/- Loops over slices that are read: contracts, the second part. -/
section
open Go.RowKit Go.Ct
theorem So{xs:List Int}{a:Option Addr}{ca:Nat}{w:World}(ha:Cl w a (aG xs))(hx:xs.length<4611686018427387904) :
  Calls Tryz.prog 199 #[.slice a xs.length ca] w λ e w'=>∃r:Bool,e=.returned (.bool r)/\(r=true↔Pos xs)/\St w [] [] w':=by
 refine enter Tryz.func199 Tryz.ntmps199 rfl rfl (SF.s1 ha) ?_
 simp only[bY]
 refine cR ?_;refine kM ?_;refine dI ?_;refine Af ?_;refine cI ?_
 refine fF [2,4,7,8,9,10,11,12,13] (λ k=>[(7,.int .i64 ((k:Nat):Int))]) (λ k=>k<=xs.length/\∀i,i<k->1<=xs.getD i 0) (λ k=>xs.length-k) (0) (⟨Nat.zero_le _,λ i hi=>absurd hi (Nat.not_lt_zero i)⟩) ?_ (λ k f hx=>?_)
 ·repeat (first|exact bG _|refine bA (by exact rfl) ?_)
 dsimp only[gR,List.map,List.cons_append,List.nil_append]
 refine J0 ?_;refine vX ?_;refine aV ?_
 refine bE (λ c8=>?_) (λ c8=>?_)
 ·refine qI ?_;refine J0 ?_;refine Yu ?_;refine J1 ?_;refine J2 ?_;refine vX ?_
  refine bE (λ c12=>?_) (λ c12=>?_)
  ·refine cR ?_
   refine aT Tryz.results199 (λ w hw=>?_)
   exact⟨_,rfl,by simp only[Bool.false_eq_true,false_iff];intro h;have:=h k (by omega);omega,hw.done⟩
  ·refine oB ?_;refine Rt ?_;refine Af ?_
   refine dY (k+1) ?_ ?_ ?_
   ·omega
   ·repeat' (first|exact bG _|refine bA ?_ ?_)
    exact rfl
   ·exact⟨by omega,λ i hi=>by rcases Nat.lt_succ_iff_lt_or_eq.1 hi with h|rfl;exact hx.2 i h;omega⟩
 ·refine bM rfl ?_;refine cR ?_
  refine aT Tryz.results199 (λ w hw=>?_)
  exact⟨_,rfl,by simp only[true_iff];intro i hi;exact hx.2 i (by omega),hw.done⟩
theorem O0{l:List Pr}{a:Option Addr}{ca:Nat}{w:World}(ha:Cl w a (dH l))(hx:l.length<4611686018427387904) :
  Calls Tryz.prog 200 #[.slice a l.length ca] w λ e w'=>∃r:Bool,e=.returned (.bool r)/\(r=true↔Hq l)/\St w [] [] w':=by
 refine enter Tryz.func200 Tryz.ntmps200 rfl rfl (SF.s1 ha) ?_
 simp only[bY]
 refine cR ?_;refine kM ?_;refine dI ?_;refine Af ?_;refine cI ?_
 refine fF [2,4,7,8,9,10,11,12,13,14,15] (λ k=>[(7,.int .i64 ((k:Nat):Int))]) (λ k=>k<=l.length/\∀i,i<k->(l.getD i (⟨#[]⟩,0)).1.size<=64) (λ k=>l.length-k) (0) (⟨Nat.zero_le _,λ i hi=>absurd hi (Nat.not_lt_zero i)⟩) ?_ (λ k f hx=>?_)
 ·repeat (first|exact bG _|refine bA (by exact rfl) ?_)
 dsimp only[gR,List.map,List.cons_append,List.nil_append]
 refine J0 ?_;refine vX ?_;refine aV ?_
 refine bE (λ c8=>?_) (λ c8=>?_)
 ·refine qI ?_;refine J0 ?_;refine Yu ?_;refine aI (λ x4=>?_);refine J5 ?_;refine gZ ?_;refine jX ?_;refine Dj ?_;refine aH ?_
  refine bE (λ c14=>?_) (λ c14=>?_)
  ·refine cR ?_
   refine aT Tryz.results200 (λ w hw=>?_)
   exact⟨_,rfl,by simp only[Bool.false_eq_true,false_iff];intro h;have:=h k (by omega);omega,hw.done⟩
  ·refine oB ?_;refine Rt ?_;refine Af ?_
   refine dY (k+1) ?_ ?_ ?_
   ·omega
   ·repeat' (first|exact bG _|refine bA ?_ ?_)
    exact rfl
   ·exact⟨by omega,λ i hi=>by rcases Nat.lt_succ_iff_lt_or_eq.1 hi with h|rfl;exact hx.2 i h;omega⟩
 ·refine bM rfl ?_;refine cR ?_
  refine aT Tryz.results200 (λ w hw=>?_)
  exact⟨_,rfl,by simp only[true_iff];intro i hi;exact hx.2 i (by omega),hw.done⟩
theorem di{l:List Pr}{a:Option Addr}{ca:Nat}{w:World}(ha:Cl w a (dH l))(hx:l.length<4611686018427387904) :
  Calls Tryz.prog 171 #[.slice a l.length ca] w λ e w'=>∃r:Bool,e=.returned (.bool r)/\(r=true↔Hq l)/\St w [] [] w':=by
 refine enter Tryz.func171 Tryz.ntmps171 rfl rfl (SF.s1 ha) ?_
 simp only[bY]
 refine Is ?_;refine Fs ?_
 refine fF [2,3,4,5,6,7,8,9,10,11,12,13,14,15,16] (λ k=>[(3,.int .i64 ((k:Nat):Int))]) (λ k=>k<=l.length/\∀i,i<k->(l.getD i (⟨#[]⟩,0)).1.size<=64) (λ k=>l.length-k) (0) (⟨Nat.zero_le _,λ i hi=>absurd hi (Nat.not_lt_zero i)⟩) ?_ (λ k f hx=>?_)
 ·repeat (first|exact bG _|refine bA (by exact rfl) ?_)
 dsimp only[gR,List.map,List.cons_append,List.nil_append]
 refine Df ?_;refine dI ?_;refine vX ?_
 refine bE (λ c7=>?_) (λ c7=>?_)
 ·refine qI ?_;refine iO ?_;refine fK ?_;refine J3 ?_;refine jX ?_;refine Dj ?_;refine aH ?_
  refine bE (λ c16=>?_) (λ c16=>?_)
  ·refine cR ?_
   refine aT Tryz.results171 (λ w hw=>?_)
   exact⟨_,rfl,by simp only[Bool.false_eq_true,false_iff];intro h;have:=h k (by omega);omega,hw.done⟩
  ·refine oB ?_;refine yH ?_
   refine dY (k+1) ?_ ?_ ?_
   ·omega
   ·repeat' (first|exact bG _|refine bA ?_ ?_)
    exact rfl
   ·exact⟨by omega,λ i hi=>by rcases Nat.lt_succ_iff_lt_or_eq.1 hi with h|rfl;exact hx.2 i h;omega⟩
 ·refine bM rfl ?_;refine cR ?_
  refine aT Tryz.results171 (λ w hw=>?_)
  exact⟨_,rfl,by simp only[true_iff];intro i hi;exact hx.2 i (by omega),hw.done⟩
theorem Jg{l:List Pr}{a:Option Addr}{ca:Nat}{w:World}(ha:Cl w a (dH l))(hx:l.length<4611686018427387904) :
  Calls Tryz.prog 193 #[.slice a l.length ca] w λ e w'=>∃r:Bool,e=.returned (.bool r)/\(r=true↔vh l)/\St w [] [] w':=by
 refine enter Tryz.func193 Tryz.ntmps193 rfl rfl (SF.s1 ha) ?_
 simp only[bY]
 refine Is ?_;refine Fs ?_
 refine fF [2,3,4,5,6,7,8,9,10,11,12,13,14,15,16,17,18,19,20,21] (λ k=>[(3,.int .i64 ((k:Nat):Int))]) (λ k=>1<=k/\k<=l.length+1/\∀i,1<=i->i<k->dA (l.getD (i-1) (⟨#[]⟩,0)).1 (l.getD i (⟨#[]⟩,0)).1=true) (λ k=>l.length-k) (1) (⟨Nat.le_refl _,by omega,λ i h1 hi=>by omega⟩) ?_ (λ k f hx=>?_)
 ·repeat (first|exact bG _|refine bA (by exact rfl) ?_)
 dsimp only[gR,List.map,List.cons_append,List.nil_append]
 refine Df ?_;refine dI ?_;refine vX ?_
 refine bE (λ c7=>?_) (λ c7=>?_)
 ·refine qI ?_;refine aV ?_;refine gJ [0,1,2,3,4,5,6,7,8,9,10,11] ?_;refine hZ ?_;refine On ?_;refine iQ ?_;refine lV ?_;refine hZ ?_;refine iQ ?_;refine lV ?_;refine ax ?_;refine eC ?_
  refine bE (λ c21=>?_) (λ c21=>?_)
  ·refine cR ?_
   refine aT Tryz.results193 (λ w hw=>?_)
   exact⟨_,rfl,by simp only[Bool.false_eq_true,false_iff];intro h;have:=h k (by omega) (by omega);rw[c21] at this;exact Bool.noConfusion this,hw.done⟩
  ·refine oB ?_;refine yH ?_
   refine dY (k+1) ?_ ?_ ?_
   ·omega
   ·repeat' (first|exact bG _|refine bA ?_ ?_)
    exact rfl
   ·exact⟨by omega,by omega,λ i h1 hi=>by rcases Nat.lt_succ_iff_lt_or_eq.1 hi with h|rfl;exact hx.2.2 i h1 h;exact c21⟩
 ·refine bM rfl ?_;refine cR ?_
  refine aT Tryz.results193 (λ w hw=>?_)
  exact⟨_,rfl,by simp only[true_iff];intro i h1 hi;exact hx.2.2 i h1 (by omega),hw.done⟩
theorem mD{l:List Pr}{a:Option Addr}{ca:Nat}{w:World}(ha:Cl w a (dH l))(hx:l.length<4611686018427387904) :
  Calls Tryz.prog 109 #[.slice a l.length ca] w λ e w'=>∃r:Bool,e=.returned (.bool r)/\(r=true↔vh l)/\St w [] [] w':=by
 refine enter Tryz.func109 Tryz.ntmps109 rfl rfl (SF.s1 ha) ?_
 simp only[bY]
 refine Is ?_;refine Fs ?_
 refine fF [2,3,4,5,6,7,8,9,10,11,12,13,14,15,16,17,18,19,20,21] (λ k=>[(3,.int .i64 ((k:Nat):Int))]) (λ k=>1<=k/\k<=l.length+1/\∀i,1<=i->i<k->dA (l.getD (i-1) (⟨#[]⟩,0)).1 (l.getD i (⟨#[]⟩,0)).1=true) (λ k=>l.length-k) (1) (⟨Nat.le_refl _,by omega,λ i h1 hi=>by omega⟩) ?_ (λ k f hx=>?_)
 ·repeat (first|exact bG _|refine bA (by exact rfl) ?_)
 dsimp only[gR,List.map,List.cons_append,List.nil_append]
 refine Df ?_;refine dI ?_;refine vX ?_
 refine bE (λ c7=>?_) (λ c7=>?_)
 ·refine qI ?_;refine aV ?_;refine gJ [0,1,2,3,4,5,6,7,8,9,10,11] ?_;refine hZ ?_;refine iQ ?_;refine lV ?_;refine hZ ?_;refine On ?_;refine iQ ?_;refine lV ?_;refine jj ?_;refine eC ?_
  refine bE (λ c21=>?_) (λ c21=>?_)
  ·refine cR ?_
   refine aT Tryz.results109 (λ w hw=>?_)
   exact⟨_,rfl,by simp only[Bool.false_eq_true,false_iff];intro h;have:=h k (by omega) (by omega);rw[aA8 c21] at this;exact Bool.noConfusion this,hw.done⟩
  ·refine oB ?_;refine yH ?_
   refine dY (k+1) ?_ ?_ ?_
   ·omega
   ·repeat' (first|exact bG _|refine bA ?_ ?_)
    exact rfl
   ·exact⟨by omega,by omega,λ i h1 hi=>by rcases Nat.lt_succ_iff_lt_or_eq.1 hi with h|rfl;exact hx.2.2 i h1 h;exact aAG c21⟩
 ·refine bM rfl ?_;refine cR ?_
  refine aT Tryz.results109 (λ w hw=>?_)
  exact⟨_,rfl,by simp only[true_iff];intro i h1 hi;exact hx.2.2 i h1 (by omega),hw.done⟩
end

end Go.Proofs.YtbajmaoegmbfgaaGreat
