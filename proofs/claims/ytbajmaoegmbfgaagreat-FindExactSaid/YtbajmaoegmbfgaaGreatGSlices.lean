/- Loops over slices that are read: contracts. -/
import Derived.Test.YtbajmaoegmbfgaaGreatGMem
import Derived.Test.YtbajmaoegmbfgaaGreatAuto

set_option linter.unusedSimpArgs false
set_option linter.unusedVariables false
namespace Go.Proofs.YtbajmaoegmbfgaaGreat
section
open Go.RowKit Go.Ct
theorem Cj{α} [BEq α] [LawfulBEq α] {xs ys:List α}{k:Nat}(h:xs.length=ys.length)(hk:¬k<xs.length)(ht:xs.take k=ys.take k):(xs==ys)=true:=by
 rw[List.take_of_length_le (by omega),List.take_of_length_le (by omega)] at ht
 simp[ht]
theorem E0{α} [BEq α] [LawfulBEq α] {xs ys:List α}(h:xs.length≠ys.length):(xs==ys)=false:=by
 simp only[beq_eq_false_iff_ne,ne_eq]
 intro e;rw[e] at h;exact h rfl
theorem E9{α} [BEq α] [LawfulBEq α] {xs ys:List α}{k:Nat}{d:α}(h:xs.getD k d≠ys.getD k d):(xs==ys)=false:=by
 simp only[beq_eq_false_iff_ne,ne_eq]
 intro e;rw[e] at h;exact h rfl
theorem C9{α} [DecidableEq α] {xs ys:List α}{k:Nat}(h:xs.length=ys.length)(hk:¬k<xs.length)(ht:xs.take k=ys.take k):decide (xs=ys)=true:=by
 rw[List.take_of_length_le (by omega),List.take_of_length_le (by omega)] at ht
 simp[ht]
theorem Em{α} [DecidableEq α] {xs ys:List α}(h:xs.length≠ys.length):decide (xs=ys)=false:=decide_eq_false λ e=>h (by rw[e])
theorem E8{α} [DecidableEq α] {xs ys:List α}{k:Nat}{d:α}(h:xs.getD k d≠ys.getD k d):decide (xs=ys)=false:=decide_eq_false λ e=>h (by rw[e])
theorem wK{α}{xs ys:List α}{k:Nat}{d:α}(h:xs.take k=ys.take k)(hk:k<xs.length)(hl:xs.length=ys.length)(he:xs.getD k d=ys.getD k d):xs.take (k+1)=ys.take (k+1):=by
 rw[List.take_add_one,List.take_add_one,h,List.getElem?_eq_getElem hk,List.getElem?_eq_getElem (hl▸hk)]
 simp only[List.getD,List.getElem?_eq_getElem hk,List.getElem?_eq_getElem (hl▸hk:k<ys.length),Option.getD_some] at he
 rw[he]
theorem Z0{xs ys:List Int}{a b:Option Addr}{ca cb:Nat}{w:World}(ha:Cl w a (aH xs))(hb:Cl w b (aH ys))(hx:xs.length<4611686018427387904) :
  Calls Tryz.prog 112 #[.slice a xs.length ca,.slice b ys.length cb] w λ e w'=>e=.returned (.bool (xs==ys))/\St w [] [] w':=by
 refine enter Tryz.func112 Tryz.ntmps112 rfl rfl (SF.s2 ha hb) ?_
 simp only[bY]
 refine cQ ?_;refine kK ?_;refine dG ?_;refine aA ?_;refine dG ?_;refine pJ ?_;refine aG ?_
 refine bE (λ c10=>?_) (λ c10=>?_)
 ·refine cQ ?_
  refine aT Tryz.results112 (λ w hw=>?_)
  exact⟨by rw[E0 (by omega)];rfl,hw.done⟩
 ·refine lK ?_;refine Hr ?_
  refine fG [4,5,11,12,13,14,15,16,17,18,19,20,21,22,23,24,25] (λ k=>[(5,.int .i64 ((k:Nat):Int))]) (λ k=>k<=xs.length/\xs.take k=ys.take k) (λ k=>xs.length-k) (0) (⟨Nat.zero_le _,by simp⟩) ?_ (λ k f hx=>?_)
  ·repeat (first|exact bG _|refine bB (by exact rfl) ?_)
  dsimp only[gU,List.map,List.cons_append,List.nil_append]
  refine Dg ?_;refine dG ?_;refine xD ?_
  refine bE (λ c14=>?_) (λ c14=>?_)
  ·refine qP ?_;refine aV ?_;refine gI [0,1,2,3,4,5,6,7,8] ?_;refine iD ?_;refine Ny ?_;refine iD ?_;refine Ny ?_;refine Of ?_;refine eA ?_
   refine bE (λ c25=>?_) (λ c25=>?_)
   ·refine cQ ?_
    refine aT Tryz.results112 (λ w hw=>?_)
    exact⟨by rw[E9 c25];rfl,hw.done⟩
   ·refine nY ?_;refine yU ?_
    refine dV (k+1) ?_ ?_ ?_
    ·omega
    ·repeat' (first|exact bG _|refine bB ?_ ?_)
     exact rfl
    ·exact⟨by omega,wK hx.2 (by omega) (by omega) c25⟩
  ·refine bM rfl ?_;refine cQ ?_
   refine aT Tryz.results112 (λ w hw=>?_)
   exact⟨by rw[Cj (k:=k) (by omega) (by omega) hx.2];rfl,hw.done⟩
theorem aA2{xs ys:List Pr}{a b:Option Addr}{ca cb:Nat}{w:World}(ha:Cl w a (dE xs))(hb:Cl w b (dE ys))(hx:xs.length<4611686018427387904) :
  Calls Tryz.prog 155 #[.slice a xs.length ca,.slice b ys.length cb] w λ e w'=>e=.returned (.bool (decide (xs=ys)))/\St w [] [] w':=by
 refine enter Tryz.func155 Tryz.ntmps155 rfl rfl (SF.s2 ha hb) ?_
 simp only[bY]
 refine cQ ?_;refine kK ?_;refine dG ?_;refine aA ?_;refine dG ?_;refine pJ ?_;refine aG ?_
 refine bE (λ c10=>?_) (λ c10=>?_)
 ·refine cQ ?_
  refine aT Tryz.results155 (λ w hw=>?_)
  exact⟨by rw[Em (by omega)];rfl,hw.done⟩
 ·refine lK ?_;refine Hr ?_
  refine fG [4,5,11,12,13,14,15,16,17,18,19,20,21,22,23,24,25] (λ k=>[(5,.int .i64 ((k:Nat):Int))]) (λ k=>k<=xs.length/\xs.take k=ys.take k) (λ k=>xs.length-k) (0) (⟨Nat.zero_le _,by simp⟩) ?_ (λ k f hx=>?_)
  ·repeat (first|exact bG _|refine bB (by exact rfl) ?_)
  dsimp only[gU,List.map,List.cons_append,List.nil_append]
  refine Dg ?_;refine dG ?_;refine xD ?_
  refine bE (λ c14=>?_) (λ c14=>?_)
  ·refine qP ?_;refine aV ?_;refine gI [0,1,2,3,4,5,6,7,8] ?_;refine iD ?_;refine Ny ?_;refine iD ?_;refine Ny ?_;refine Ts ?_;refine eA ?_
   refine bE (λ c25=>?_) (λ c25=>?_)
   ·refine cQ ?_
    refine aT Tryz.results155 (λ w hw=>?_)
    exact⟨by rw[E8 λ h=>c25 ⟨congrArg Prod.fst h,congrArg Prod.snd h⟩];rfl,hw.done⟩
   ·refine nY ?_;refine yU ?_
    refine dV (k+1) ?_ ?_ ?_
    ·omega
    ·repeat' (first|exact bG _|refine bB ?_ ?_)
     exact rfl
    ·exact⟨by omega,wK hx.2 (by omega) (by omega) (Prod.ext c25.1 c25.2)⟩
  ·refine bM rfl ?_;refine cQ ?_
   refine aT Tryz.results155 (λ w hw=>?_)
   exact⟨by rw[C9 (k:=k) (by omega) (by omega) hx.2];rfl,hw.done⟩
theorem ru{xs ys:List Int}{a b:Option Addr}{ca cb:Nat}{w:World}(ha:Cl w a (aH xs))(hb:Cl w b (aH ys))(hx:xs.length<4611686018427387904) :
  Calls Tryz.prog 236 #[.slice a xs.length ca,.slice b ys.length cb] w λ e w'=>e=.returned (.bool (xs==ys))/\St w [] [] w':=by
 refine enter Tryz.func236 Tryz.ntmps236 rfl rfl (SF.s2 ha hb) ?_
 simp only[bY]
 refine cQ ?_;refine kK ?_;refine dG ?_;refine aA ?_;refine dG ?_;refine pJ ?_;refine aG ?_
 refine bE (λ c10=>?_) (λ c10=>?_)
 ·refine cQ ?_
  refine aT Tryz.results236 (λ w hw=>?_)
  exact⟨by rw[E0 (by omega)];rfl,hw.done⟩
 ·refine lK ?_;refine J2 ?_;refine dG ?_;refine A4 ?_;refine cO ?_
  refine fG [4,5,13,14,15,16,17,18,19,20,21,22,23,24,25] (λ k=>[(13,.int .i64 ((k:Nat):Int))]) (λ k=>k<=xs.length/\xs.take k=ys.take k) (λ k=>xs.length-k) (0) (⟨Nat.zero_le _,by simp⟩) ?_ (λ k f hx=>?_)
  ·repeat (first|exact bG _|refine bB (by exact rfl) ?_)
  dsimp only[gU,List.map,List.cons_append,List.nil_append]
  refine J0 ?_;refine xD ?_;refine aV ?_
  refine bE (λ c14=>?_) (λ c14=>?_)
  ·refine qP ?_;refine J2 ?_;refine iT ?_;refine gI [0,1,2,3,4,5,6,7,8] ?_;refine iD ?_;refine Ny ?_;refine iD ?_;refine Ny ?_;refine Of ?_;refine eA ?_
   refine bE (λ c24=>?_) (λ c24=>?_)
   ·refine cQ ?_
    refine aT Tryz.results236 (λ w hw=>?_)
    exact⟨by rw[E9 c24];rfl,hw.done⟩
   ·refine nY ?_;refine Tb ?_;refine A4 ?_
    refine dV (k+1) ?_ ?_ ?_
    ·omega
    ·repeat' (first|exact bG _|refine bB ?_ ?_)
     exact rfl
    ·exact⟨by omega,wK hx.2 (by omega) (by omega) c24⟩
  ·refine bM rfl ?_;refine cQ ?_
   refine aT Tryz.results236 (λ w hw=>?_)
   exact⟨by rw[Cj (k:=k) (by omega) (by omega) hx.2];rfl,hw.done⟩
theorem y5{xs ys:List Pr}{a b:Option Addr}{ca cb:Nat}{w:World}(ha:Cl w a (dE xs))(hb:Cl w b (dE ys))(hx:xs.length<4611686018427387904) :
  Calls Tryz.prog 237 #[.slice a xs.length ca,.slice b ys.length cb] w λ e w'=>e=.returned (.bool (decide (xs=ys)))/\St w [] [] w':=by
 refine enter Tryz.func237 Tryz.ntmps237 rfl rfl (SF.s2 ha hb) ?_
 simp only[bY]
 refine cQ ?_;refine kK ?_;refine dG ?_;refine aA ?_;refine dG ?_;refine pJ ?_;refine aG ?_
 refine bE (λ c10=>?_) (λ c10=>?_)
 ·refine cQ ?_
  refine aT Tryz.results237 (λ w hw=>?_)
  exact⟨by rw[Em (by omega)];rfl,hw.done⟩
 ·refine lK ?_;refine J2 ?_;refine dG ?_;refine A4 ?_;refine cO ?_
  refine fG [4,5,13,14,15,16,17,18,19,20,21,22,23,24,25] (λ k=>[(13,.int .i64 ((k:Nat):Int))]) (λ k=>k<=xs.length/\xs.take k=ys.take k) (λ k=>xs.length-k) (0) (⟨Nat.zero_le _,by simp⟩) ?_ (λ k f hx=>?_)
  ·repeat (first|exact bG _|refine bB (by exact rfl) ?_)
  dsimp only[gU,List.map,List.cons_append,List.nil_append]
  refine J0 ?_;refine xD ?_;refine aV ?_
  refine bE (λ c14=>?_) (λ c14=>?_)
  ·refine qP ?_;refine J2 ?_;refine iT ?_;refine gI [0,1,2,3,4,5,6,7,8] ?_;refine iD ?_;refine Ny ?_;refine iD ?_;refine Ny ?_;refine Ts ?_;refine eA ?_
   refine bE (λ c24=>?_) (λ c24=>?_)
   ·refine cQ ?_
    refine aT Tryz.results237 (λ w hw=>?_)
    exact⟨by rw[E8 λ h=>c24 ⟨congrArg Prod.fst h,congrArg Prod.snd h⟩];rfl,hw.done⟩
   ·refine nY ?_;refine Tb ?_;refine A4 ?_
    refine dV (k+1) ?_ ?_ ?_
    ·omega
    ·repeat' (first|exact bG _|refine bB ?_ ?_)
     exact rfl
    ·exact⟨by omega,wK hx.2 (by omega) (by omega) (Prod.ext c24.1 c24.2)⟩
  ·refine bM rfl ?_;refine cQ ?_
   refine aT Tryz.results237 (λ w hw=>?_)
   exact⟨by rw[C9 (k:=k) (by omega) (by omega) hx.2];rfl,hw.done⟩
end

/- Nodes are compared. -/
section
open Go.RowKit Go.Ct
theorem V7{a b:Nd}{x1 x2:List Int}{y1 y2:List Pr}{w:World}(ha:qI w a x1 y1)(hb:qI w b x2 y2) :
  Calls Tryz.prog 113 #[a.v,b.v] w λ e w'=>∃r:Bool,e=.returned (.bool r)/\(r=true↔rM a b x1 x2 y1 y2)/\St w [] [] w':=by
 have e1:=ha.brN;have e2:=hb.brN;have e3:=ha.prN;have e4:=hb.prN
 refine enter Tryz.func113 Tryz.ntmps113 rfl rfl (SF.s0 w) ?_
 simp only[bY]
 refine J0 ?_;refine bN (λ x2=>?_);refine bN (λ x3=>?_);refine iT ?_;refine hJ ?_;refine J3 ?_;refine pJ ?_;refine aA ?_
 (refine eM 10 (λ g10=>?_) (λ g10=>?_)<;>(first|refine aJ ?_|(refine aF ?_;refine aE ?_)))
 all_goals (refine A1 ?_;refine Q2 ?_;refine aA ?_)
 all_goals (first|refine aJ ?_|(refine eM 17 (λ g17=>?_) (λ g17=>?_)<;>(first|refine aJ ?_|(refine aF ?_;refine aE ?_))))
 all_goals (refine A1 ?_;refine Q2 ?_;refine aA ?_)
 all_goals (first|refine aJ ?_|(refine eM 24 (λ g24=>?_) (λ g24=>?_)<;>(first|refine aJ ?_|(refine aF ?_;refine aE ?_))))
 all_goals (refine A1 ?_;refine Q2 ?_;refine aA ?_)
 all_goals (first|refine aJ ?_|(refine eM 31 (λ g31=>?_) (λ g31=>?_)<;>(first|refine aJ ?_|(refine aF ?_;refine aE ?_))))
 all_goals (refine A1 ?_;refine Q2 ?_;refine aA ?_)
 all_goals (first|refine aJ ?_|(refine eM 38 (λ g38=>?_) (λ g38=>?_)<;>(first|refine aJ ?_|(refine aF ?_;refine aE ?_))))
 all_goals (refine A1 ?_;(first|refine aJ ?_|(refine aF ?_;refine sq ?_));refine cH ?_;refine aA ?_)
 all_goals (first|refine aJ ?_|(refine eM 45 (λ g45=>?_) (λ g45=>?_)<;>(first|refine aJ ?_|(refine aF ?_;refine aE ?_))))
 all_goals (refine A1 ?_;refine Q2 ?_;refine aG ?_)
 all_goals
 refine bE (λ c51=>?_) (λ c51=>?_)
 ·all_goals refine cQ ?_
  all_goals
   refine aT Tryz.results113 (λ w hw=>?_)
   exact⟨_,rfl,by simp_all[rM],hw.done⟩
 ·try exact nv c51
  all_goals (refine aZ ?_;refine hJ ?_;refine J3 ?_;refine aQ (cV (hc:=λ w1 hw=>by simp only[e1,e2];exact Z0 (ha.br.fI hw.st) (hb.br.fI hw.st) ha.brS)) (λ x56=>?_);refine aA ?_)
  all_goals ((refine eM 57 (λ g57=>?_) (λ g57=>?_)<;>(first|refine aJ ?_|(refine aF ?_;refine aE ?_))))
  all_goals (refine A1 ?_;(first|refine aJ ?_|(refine aF ?_;refine aQ (cV (hc:=λ w1 hw=>by simp only[e3,e4];exact aA2 (ha.pr.fI hw.st) (hb.pr.fI hw.st) ha.prS)) (λ x62=>?_)));refine cH ?_;refine aA ?_)
  all_goals (first|refine aJ ?_|(refine eM 64 (λ g64=>?_) (λ g64=>?_)<;>(first|refine aJ ?_|(refine aF ?_;refine aE ?_))))
  all_goals (refine A1 ?_;refine yG ?_;refine aA ?_)
  all_goals (first|refine aJ ?_|(refine eM 71 (λ g71=>?_) (λ g71=>?_)<;>(first|refine aJ ?_|(refine aF ?_;refine aE ?_))))
  all_goals (refine A1 ?_;refine yG ?_;refine aA ?_)
  all_goals (first|refine aJ ?_|(refine eM 78 (λ g78=>?_) (λ g78=>?_)<;>(first|refine aJ ?_|(refine aF ?_;refine aE ?_))))
  all_goals (refine A1 ?_;refine yG ?_;refine aA ?_)
  all_goals (first|refine aJ ?_|(refine eM 85 (λ g85=>?_) (λ g85=>?_)<;>(first|refine aJ ?_|(refine aF ?_;refine aE ?_))))
  all_goals (refine A1 ?_;refine yG ?_;refine aA ?_)
  all_goals (first|refine aJ ?_|(refine eM 92 (λ g92=>?_) (λ g92=>?_)<;>(first|refine aJ ?_|(refine aF ?_;refine aE ?_))))
  all_goals (refine A1 ?_;refine yG ?_;refine J1 ?_)
  all_goals
   refine aT Tryz.results113 (λ w hw=>?_)
   exact⟨_,rfl,by simp_all[rM],hw.done⟩
theorem wz{a b:Nd}{x1 x2:List Int}{y1 y2:List Pr}{w:World}(ha:qI w a x1 y1)(hb:qI w b x2 y2) :
  Calls Tryz.prog 196 #[a.v,b.v] w λ e w'=>∃r:Bool,e=.returned (.bool r)/\(r=true↔rM a b x1 x2 y1 y2)/\St w [] [] w':=by
 have e1:=ha.brN;have e2:=hb.brN;have e3:=ha.prN;have e4:=hb.prN
 refine enter Tryz.func196 Tryz.ntmps196 rfl rfl (SF.s0 w) ?_
 simp only[bY]
 refine J0 ?_;refine bN (λ x2=>?_);refine bN (λ x3=>?_);refine iT ?_;refine Xy (by dsimp only[List.append]) ?_;refine J3 ?_;refine J3 ?_;refine lV ?_;refine aA ?_
 (refine eM 10 (λ g10=>?_) (λ g10=>?_)<;>(first|refine aJ ?_|(refine aF ?_;refine aE ?_)))
 all_goals (refine A1 ?_;refine yG ?_;refine aA ?_)
 all_goals (first|refine aJ ?_|(refine eM 17 (λ g17=>?_) (λ g17=>?_)<;>(first|refine aJ ?_|(refine aF ?_;refine aE ?_))))
 all_goals (refine A1 ?_;refine yG ?_;refine aA ?_)
 all_goals (first|refine aJ ?_|(refine eM 24 (λ g24=>?_) (λ g24=>?_)<;>(first|refine aJ ?_|(refine aF ?_;refine aE ?_))))
 all_goals (refine A1 ?_;refine yG ?_;refine aA ?_)
 all_goals (first|refine aJ ?_|(refine eM 31 (λ g31=>?_) (λ g31=>?_)<;>(first|refine aJ ?_|(refine aF ?_;refine aE ?_))))
 all_goals (refine A1 ?_;(first|refine aJ ?_|(refine aF ?_;refine aQ (cV (hc:=λ w1 hw=>by simp only[e1,e2];exact ru (ha.br.fI hw.st) (hb.br.fI hw.st) ha.brS)) (λ x36=>?_)));refine cH ?_;refine aA ?_)
 all_goals (first|refine aJ ?_|(refine eM 38 (λ g38=>?_) (λ g38=>?_)<;>(first|refine aJ ?_|(refine aF ?_;refine aE ?_))))
 all_goals (refine A1 ?_;refine yG ?_;refine aA ?_)
 all_goals (first|refine aJ ?_|(refine eM 45 (λ g45=>?_) (λ g45=>?_)<;>(first|refine aJ ?_|(refine aF ?_;refine aE ?_))))
 all_goals (refine A1 ?_;(first|refine aJ ?_|(refine aF ?_;refine sj ?_));refine cH ?_;refine aA ?_)
 all_goals (first|refine aJ ?_|(refine eM 52 (λ g52=>?_) (λ g52=>?_)<;>(first|refine aJ ?_|(refine aF ?_;refine aE ?_))))
 all_goals (refine A1 ?_;refine yG ?_;refine aA ?_)
 all_goals (first|refine aJ ?_|(refine eM 59 (λ g59=>?_) (λ g59=>?_)<;>(first|refine aJ ?_|(refine aF ?_;refine aE ?_))))
 all_goals (refine A1 ?_;(first|refine aJ ?_|(refine aF ?_;refine aQ (cV (hc:=λ w1 hw=>by simp only[e3,e4];exact y5 (ha.pr.fI hw.st) (hb.pr.fI hw.st) ha.prS)) (λ x64=>?_)));refine cH ?_;refine aA ?_)
 all_goals (first|refine aJ ?_|(refine eM 66 (λ g66=>?_) (λ g66=>?_)<;>(first|refine aJ ?_|(refine aF ?_;refine aE ?_))))
 all_goals (refine A1 ?_;refine yG ?_;refine aA ?_)
 all_goals (first|refine aJ ?_|(refine eM 73 (λ g73=>?_) (λ g73=>?_)<;>(first|refine aJ ?_|(refine aF ?_;refine aE ?_))))
 all_goals (refine A1 ?_;refine yG ?_;refine aA ?_)
 all_goals (first|refine aJ ?_|(refine eM 80 (λ g80=>?_) (λ g80=>?_)<;>(first|refine aJ ?_|(refine aF ?_;refine aE ?_))))
 all_goals (refine A1 ?_;refine yG ?_;refine aA ?_)
 all_goals (first|refine aJ ?_|(refine eM 87 (λ g87=>?_) (λ g87=>?_)<;>(first|refine aJ ?_|(refine aF ?_;refine aE ?_))))
 all_goals (refine A1 ?_;refine yG ?_;refine aA ?_)
 all_goals (first|refine aJ ?_|(refine eM 94 (λ g94=>?_) (λ g94=>?_)<;>(first|refine aJ ?_|(refine aF ?_;refine aE ?_))))
 all_goals (refine A1 ?_;refine yG ?_;refine J1 ?_)
 all_goals
 refine aT Tryz.results196 (λ w hw=>?_)
 exact⟨_,rfl,by simp_all[rM],hw.done⟩
theorem S2(a:Nd)(w:World):Calls Tryz.prog 80 #[a.v] w λ e w'=>∃r:Bool,e=.returned (.bool r)/\(r=true↔(a.kind=3∨a.kind=5∨a.kind=6))/\St w [] [] w':=by
 refine enter Tryz.func80 Tryz.ntmps80 rfl rfl (SF.s0 w) ?_
 simp only[bY]
 refine J0 ?_;refine bN (λ x1=>?_);refine iT ?_;refine hJ ?_;refine aG ?_;refine cO ?_;refine aV ?_;refine lA ?_
 refine bE (λ c5=>?_) (λ c5=>?_)
 ·refine aZ ?_
  refine bE (λ c5=>?_) (λ c5=>?_)
  ·refine cQ ?_
   refine aT Tryz.results80 (λ w hw=>?_)
   exact⟨_,rfl,by simp_all,hw.done⟩
  ·refine nY ?_;refine cQ ?_
   refine aT Tryz.results80 (λ w hw=>?_)
   exact⟨_,rfl,by simp_all,hw.done⟩
 ·refine lA ?_
  refine bE (λ c5=>?_) (λ c5=>?_)
  ·refine aZ ?_
   refine bE (λ c5=>?_) (λ c5=>?_)
   ·refine cQ ?_
    refine aT Tryz.results80 (λ w hw=>?_)
    exact⟨_,rfl,by simp_all,hw.done⟩
   ·refine nY ?_;refine cQ ?_
    refine aT Tryz.results80 (λ w hw=>?_)
    exact⟨_,rfl,by simp_all,hw.done⟩
  ·refine dW ?_;refine Td ?_
   refine bE (λ c5=>?_) (λ c5=>?_)
   ·refine cQ ?_
    refine aT Tryz.results80 (λ w hw=>?_)
    exact⟨_,rfl,by simp_all,hw.done⟩
   ·refine nY ?_;refine cQ ?_
    refine aT Tryz.results80 (λ w hw=>?_)
    exact⟨_,rfl,by simp_all,hw.done⟩
theorem Xv(a:Nd)(w:World):Calls Tryz.prog 41 #[a.v] w λ e w'=>∃r:Bool,e=.returned (.bool r)/\(r=true↔(a.kind=3∨a.kind=5∨a.kind=6))/\St w [] [] w':=by
 refine enter Tryz.func41 Tryz.ntmps41 rfl rfl (SF.s0 w) ?_
 simp only[bY]
 refine J0 ?_;refine bN (λ x1=>?_);refine J1 ?_;refine hJ ?_;refine lV ?_;refine aA ?_
 (refine eM 6 (λ g6=>?_) (λ g6=>?_)<;>(first|refine aJ ?_|(refine aF ?_;refine aE ?_)))
 all_goals (refine vc ?_;refine aA ?_)
 all_goals (first|refine aJ ?_|(refine eM 11 (λ g11=>?_) (λ g11=>?_)<;>(first|refine aJ ?_|(refine aF ?_;refine aE ?_))))
 all_goals (refine vc ?_;refine J1 ?_)
 all_goals
 refine aT Tryz.results41 (λ w hw=>?_)
 exact⟨_,rfl,by simp_all,hw.done⟩
end

/- Loops over slices that are read: contracts, the second part. -/
section
open Go.RowKit Go.Ct
theorem Sm{xs:List Int}{a:Option Addr}{ca:Nat}{w:World}(ha:Cl w a (aH xs))(hx:xs.length<4611686018427387904) :
  Calls Tryz.prog 199 #[.slice a xs.length ca] w λ e w'=>∃r:Bool,e=.returned (.bool r)/\(r=true↔Pos xs)/\St w [] [] w':=by
 refine enter Tryz.func199 Tryz.ntmps199 rfl rfl (SF.s1 ha) ?_
 simp only[bY]
 refine cQ ?_;refine kK ?_;refine dG ?_;refine A4 ?_;refine cO ?_
 refine fG [2,4,7,8,9,10,11,12,13] (λ k=>[(7,.int .i64 ((k:Nat):Int))]) (λ k=>k<=xs.length/\∀i,i<k->1<=xs.getD i 0) (λ k=>xs.length-k) (0) (⟨Nat.zero_le _,λ i hi=>absurd hi (Nat.not_lt_zero i)⟩) ?_ (λ k f hx=>?_)
 ·repeat (first|exact bG _|refine bB (by exact rfl) ?_)
 dsimp only[gU,List.map,List.cons_append,List.nil_append]
 refine J0 ?_;refine xD ?_;refine aV ?_
 refine bE (λ c8=>?_) (λ c8=>?_)
 ·refine qP ?_;refine J0 ?_;refine Yd ?_;refine J1 ?_;refine J2 ?_;refine xD ?_
  refine bE (λ c12=>?_) (λ c12=>?_)
  ·refine cQ ?_
   refine aT Tryz.results199 (λ w hw=>?_)
   exact⟨_,rfl,by simp only[Bool.false_eq_true,false_iff];intro h;have:=h k (by omega);omega,hw.done⟩
  ·refine nY ?_;refine Tb ?_;refine A4 ?_
   refine dV (k+1) ?_ ?_ ?_
   ·omega
   ·repeat' (first|exact bG _|refine bB ?_ ?_)
    exact rfl
   ·exact⟨by omega,λ i hi=>by rcases Nat.lt_succ_iff_lt_or_eq.1 hi with h|rfl;exact hx.2 i h;omega⟩
 ·refine bM rfl ?_;refine cQ ?_
  refine aT Tryz.results199 (λ w hw=>?_)
  exact⟨_,rfl,by simp only[true_iff];intro i hi;exact hx.2 i (by omega),hw.done⟩
theorem Mx{l:List Pr}{a:Option Addr}{ca:Nat}{w:World}(ha:Cl w a (dE l))(hx:l.length<4611686018427387904) :
  Calls Tryz.prog 200 #[.slice a l.length ca] w λ e w'=>∃r:Bool,e=.returned (.bool r)/\(r=true↔He l)/\St w [] [] w':=by
 refine enter Tryz.func200 Tryz.ntmps200 rfl rfl (SF.s1 ha) ?_
 simp only[bY]
 refine cQ ?_;refine kK ?_;refine dG ?_;refine A4 ?_;refine cO ?_
 refine fG [2,4,7,8,9,10,11,12,13,14,15] (λ k=>[(7,.int .i64 ((k:Nat):Int))]) (λ k=>k<=l.length/\∀i,i<k->(l.getD i (⟨#[]⟩,0)).1.size<=64) (λ k=>l.length-k) (0) (⟨Nat.zero_le _,λ i hi=>absurd hi (Nat.not_lt_zero i)⟩) ?_ (λ k f hx=>?_)
 ·repeat (first|exact bG _|refine bB (by exact rfl) ?_)
 dsimp only[gU,List.map,List.cons_append,List.nil_append]
 refine J0 ?_;refine xD ?_;refine aV ?_
 refine bE (λ c8=>?_) (λ c8=>?_)
 ·refine qP ?_;refine J0 ?_;refine Yd ?_;refine aI (λ x4=>?_);refine J5 ?_;refine hJ ?_;refine jW ?_;refine Da ?_;refine aG ?_
  refine bE (λ c14=>?_) (λ c14=>?_)
  ·refine cQ ?_
   refine aT Tryz.results200 (λ w hw=>?_)
   exact⟨_,rfl,by simp only[Bool.false_eq_true,false_iff];intro h;have:=h k (by omega);omega,hw.done⟩
  ·refine nY ?_;refine Tb ?_;refine A4 ?_
   refine dV (k+1) ?_ ?_ ?_
   ·omega
   ·repeat' (first|exact bG _|refine bB ?_ ?_)
    exact rfl
   ·exact⟨by omega,λ i hi=>by rcases Nat.lt_succ_iff_lt_or_eq.1 hi with h|rfl;exact hx.2 i h;omega⟩
 ·refine bM rfl ?_;refine cQ ?_
  refine aT Tryz.results200 (λ w hw=>?_)
  exact⟨_,rfl,by simp only[true_iff];intro i hi;exact hx.2 i (by omega),hw.done⟩
theorem b9{l:List Pr}{a:Option Addr}{ca:Nat}{w:World}(ha:Cl w a (dE l))(hx:l.length<4611686018427387904) :
  Calls Tryz.prog 171 #[.slice a l.length ca] w λ e w'=>∃r:Bool,e=.returned (.bool r)/\(r=true↔He l)/\St w [] [] w':=by
 refine enter Tryz.func171 Tryz.ntmps171 rfl rfl (SF.s1 ha) ?_
 simp only[bY]
 refine Hz ?_;refine Hr ?_
 refine fG [2,3,4,5,6,7,8,9,10,11,12,13,14,15,16] (λ k=>[(3,.int .i64 ((k:Nat):Int))]) (λ k=>k<=l.length/\∀i,i<k->(l.getD i (⟨#[]⟩,0)).1.size<=64) (λ k=>l.length-k) (0) (⟨Nat.zero_le _,λ i hi=>absurd hi (Nat.not_lt_zero i)⟩) ?_ (λ k f hx=>?_)
 ·repeat (first|exact bG _|refine bB (by exact rfl) ?_)
 dsimp only[gU,List.map,List.cons_append,List.nil_append]
 refine Dg ?_;refine dG ?_;refine xD ?_
 refine bE (λ c7=>?_) (λ c7=>?_)
 ·refine qP ?_;refine iM ?_;refine fL ?_;refine J3 ?_;refine jW ?_;refine Da ?_;refine aG ?_
  refine bE (λ c16=>?_) (λ c16=>?_)
  ·refine cQ ?_
   refine aT Tryz.results171 (λ w hw=>?_)
   exact⟨_,rfl,by simp only[Bool.false_eq_true,false_iff];intro h;have:=h k (by omega);omega,hw.done⟩
  ·refine nY ?_;refine yU ?_
   refine dV (k+1) ?_ ?_ ?_
   ·omega
   ·repeat' (first|exact bG _|refine bB ?_ ?_)
    exact rfl
   ·exact⟨by omega,λ i hi=>by rcases Nat.lt_succ_iff_lt_or_eq.1 hi with h|rfl;exact hx.2 i h;omega⟩
 ·refine bM rfl ?_;refine cQ ?_
  refine aT Tryz.results171 (λ w hw=>?_)
  exact⟨_,rfl,by simp only[true_iff];intro i hi;exact hx.2 i (by omega),hw.done⟩
theorem Iv{l:List Pr}{a:Option Addr}{ca:Nat}{w:World}(ha:Cl w a (dE l))(hx:l.length<4611686018427387904) :
  Calls Tryz.prog 193 #[.slice a l.length ca] w λ e w'=>∃r:Bool,e=.returned (.bool r)/\(r=true↔tu l)/\St w [] [] w':=by
 refine enter Tryz.func193 Tryz.ntmps193 rfl rfl (SF.s1 ha) ?_
 simp only[bY]
 refine Hz ?_;refine Hr ?_
 refine fG [2,3,4,5,6,7,8,9,10,11,12,13,14,15,16,17,18,19,20,21] (λ k=>[(3,.int .i64 ((k:Nat):Int))]) (λ k=>1<=k/\k<=l.length+1/\∀i,1<=i->i<k->cX (l.getD (i-1) (⟨#[]⟩,0)).1 (l.getD i (⟨#[]⟩,0)).1=true) (λ k=>l.length-k) (1) (⟨Nat.le_refl _,by omega,λ i h1 hi=>by omega⟩) ?_ (λ k f hx=>?_)
 ·repeat (first|exact bG _|refine bB (by exact rfl) ?_)
 dsimp only[gU,List.map,List.cons_append,List.nil_append]
 refine Dg ?_;refine dG ?_;refine xD ?_
 refine bE (λ c7=>?_) (λ c7=>?_)
 ·refine qP ?_;refine aV ?_;refine gI [0,1,2,3,4,5,6,7,8,9,10,11] ?_;refine iD ?_;refine O5 ?_;refine iN ?_;refine mL ?_;refine iD ?_;refine iN ?_;refine mL ?_;refine Y2 ?_;refine eA ?_
  refine bE (λ c21=>?_) (λ c21=>?_)
  ·refine cQ ?_
   refine aT Tryz.results193 (λ w hw=>?_)
   exact⟨_,rfl,by simp only[Bool.false_eq_true,false_iff];intro h;have:=h k (by omega) (by omega);rw[c21] at this;exact Bool.noConfusion this,hw.done⟩
  ·refine nY ?_;refine yU ?_
   refine dV (k+1) ?_ ?_ ?_
   ·omega
   ·repeat' (first|exact bG _|refine bB ?_ ?_)
    exact rfl
   ·exact⟨by omega,by omega,λ i h1 hi=>by rcases Nat.lt_succ_iff_lt_or_eq.1 hi with h|rfl;exact hx.2.2 i h1 h;exact c21⟩
 ·refine bM rfl ?_;refine cQ ?_
  refine aT Tryz.results193 (λ w hw=>?_)
  exact⟨_,rfl,by simp only[true_iff];intro i h1 hi;exact hx.2.2 i h1 (by omega),hw.done⟩
theorem lU{l:List Pr}{a:Option Addr}{ca:Nat}{w:World}(ha:Cl w a (dE l))(hx:l.length<4611686018427387904) :
  Calls Tryz.prog 109 #[.slice a l.length ca] w λ e w'=>∃r:Bool,e=.returned (.bool r)/\(r=true↔tu l)/\St w [] [] w':=by
 refine enter Tryz.func109 Tryz.ntmps109 rfl rfl (SF.s1 ha) ?_
 simp only[bY]
 refine Hz ?_;refine Hr ?_
 refine fG [2,3,4,5,6,7,8,9,10,11,12,13,14,15,16,17,18,19,20,21] (λ k=>[(3,.int .i64 ((k:Nat):Int))]) (λ k=>1<=k/\k<=l.length+1/\∀i,1<=i->i<k->cX (l.getD (i-1) (⟨#[]⟩,0)).1 (l.getD i (⟨#[]⟩,0)).1=true) (λ k=>l.length-k) (1) (⟨Nat.le_refl _,by omega,λ i h1 hi=>by omega⟩) ?_ (λ k f hx=>?_)
 ·repeat (first|exact bG _|refine bB (by exact rfl) ?_)
 dsimp only[gU,List.map,List.cons_append,List.nil_append]
 refine Dg ?_;refine dG ?_;refine xD ?_
 refine bE (λ c7=>?_) (λ c7=>?_)
 ·refine qP ?_;refine aV ?_;refine gI [0,1,2,3,4,5,6,7,8,9,10,11] ?_;refine iD ?_;refine iN ?_;refine mL ?_;refine iD ?_;refine O5 ?_;refine iN ?_;refine mL ?_;refine Z7 ?_;refine eA ?_
  refine bE (λ c21=>?_) (λ c21=>?_)
  ·refine cQ ?_
   refine aT Tryz.results109 (λ w hw=>?_)
   exact⟨_,rfl,by simp only[Bool.false_eq_true,false_iff];intro h;have:=h k (by omega) (by omega);rw[aAY c21] at this;exact Bool.noConfusion this,hw.done⟩
  ·refine nY ?_;refine yU ?_
   refine dV (k+1) ?_ ?_ ?_
   ·omega
   ·repeat' (first|exact bG _|refine bB ?_ ?_)
    exact rfl
   ·exact⟨by omega,by omega,λ i h1 hi=>by rcases Nat.lt_succ_iff_lt_or_eq.1 hi with h|rfl;exact hx.2.2 i h1 h;exact aBc c21⟩
 ·refine bM rfl ?_;refine cQ ?_
  refine aT Tryz.results109 (λ w hw=>?_)
  exact⟨_,rfl,by simp only[true_iff];intro i h1 hi;exact hx.2.2 i h1 (by omega),hw.done⟩
end

end Go.Proofs.YtbajmaoegmbfgaaGreat
