/- Nodes are compared. -/
import Derived.Test.YtadnboagdhcedaaGreatDoorGJoin

set_option linter.unusedSimpArgs false
set_option linter.unusedVariables false
namespace Go.Proofs.YtadnboagdhcedaaGreatDoor
section
open Go.RowKit Go.Ct
theorem ak{a b:Nd}{x1 x2:List Int}{y1 y2:List Pr}{w:World}(ha:pT w a x1 y1)(hb:pT w b x2 y2) :
  Calls Tryz.prog 136 #[a.v,b.v] w λ e w'=>∃r:Bool,e=.returned (.bool r)/\(r=true↔oU a b x1 x2 y1 y2)/\St w [] [] w':=by
 have e1:=ha.brN;have e2:=hb.brN;have e3:=ha.prN;have e4:=hb.prN
 refine enter Tryz.func136 Tryz.ntmps136 rfl rfl (SF.s0 w) ?_
 simp only[cR]
 refine J0 ?_;refine bP (λ x2=>?_);refine bP (λ x3=>?_);refine gK ?_;refine gN ?_;refine J3 ?_;refine jE ?_;refine aB ?_
 (refine eR 10 (λ g10=>?_) (λ g10=>?_)<;>refine Ka0 ?_)
 all_goals (refine yC ?_;refine S8 ?_;refine aB ?_)
 all_goals (first|refine aH ?_|(refine eR 17 (λ g17=>?_) (λ g17=>?_)<;>refine Ka0 ?_))
 all_goals (refine yC ?_;refine S8 ?_;refine aB ?_)
 all_goals (first|refine aH ?_|(refine eR 24 (λ g24=>?_) (λ g24=>?_)<;>refine Ka0 ?_))
 all_goals (refine yC ?_;refine S8 ?_;refine aB ?_)
 all_goals (first|refine aH ?_|(refine eR 31 (λ g31=>?_) (λ g31=>?_)<;>refine Ka0 ?_))
 all_goals (refine yC ?_;refine S8 ?_;refine aB ?_)
 all_goals (first|refine aH ?_|(refine eR 38 (λ g38=>?_) (λ g38=>?_)<;>refine Ka0 ?_))
 all_goals (refine yC ?_;(first|refine aH ?_|(refine aF ?_;refine j6 ?_));refine cU ?_;refine aB ?_)
 all_goals (first|refine aH ?_|(refine eR 45 (λ g45=>?_) (λ g45=>?_)<;>refine Ka0 ?_))
 all_goals (refine yC ?_;refine S8 ?_;refine aI ?_)
 all_goals
 refine aZ (λ c51=>?_) (λ c51=>?_)
 ·all_goals refine cN ?_
  all_goals
   refine aN Tryz.results136 (λ w hw=>?_)
   exact⟨_,rfl,by simp_all[oU],hw.done⟩
 ·try exact nv c51
  all_goals (refine bA ?_;refine gN ?_;refine J3 ?_;refine aR (cV (hc:=λ w1 hw=>by simp only[e1,e2];exact ry (ha.br.eW hw.st) (hb.br.eW hw.st) ha.brS)) (λ x56=>?_);refine aB ?_)
  all_goals ((refine eR 57 (λ g57=>?_) (λ g57=>?_)<;>refine Ka0 ?_))
  all_goals (refine yC ?_;(first|refine aH ?_|(refine aF ?_;refine aR (cV (hc:=λ w1 hw=>by simp only[e3,e4];exact uv (ha.pr.eW hw.st) (hb.pr.eW hw.st) ha.prS)) (λ x62=>?_)));refine cU ?_;refine aB ?_)
  all_goals (first|refine aH ?_|(refine eR 64 (λ g64=>?_) (λ g64=>?_)<;>refine Ka0 ?_))
  all_goals (refine Kc6 ?_)
  all_goals (first|refine aH ?_|(refine eR 71 (λ g71=>?_) (λ g71=>?_)<;>refine Ka0 ?_))
  all_goals (refine Kc6 ?_)
  all_goals (first|refine aH ?_|(refine eR 78 (λ g78=>?_) (λ g78=>?_)<;>refine Ka0 ?_))
  all_goals (refine Kc6 ?_)
  all_goals (first|refine aH ?_|(refine eR 85 (λ g85=>?_) (λ g85=>?_)<;>refine Ka0 ?_))
  all_goals (refine Kc6 ?_)
  all_goals (first|refine aH ?_|(refine eR 92 (λ g92=>?_) (λ g92=>?_)<;>refine Ka0 ?_))
  all_goals (refine Kc0 ?_;refine J1 ?_)
  all_goals
   refine aN Tryz.results136 (λ w hw=>?_)
   exact⟨_,rfl,by simp_all[oU],hw.done⟩
theorem qk{a b:Nd}{x1 x2:List Int}{y1 y2:List Pr}{w:World}(ha:pT w a x1 y1)(hb:pT w b x2 y2) :
  Calls Tryz.prog 157 #[a.v,b.v] w λ e w'=>∃r:Bool,e=.returned (.bool r)/\(r=true↔oU a b x1 x2 y1 y2)/\St w [] [] w':=by
 have e1:=ha.brN;have e2:=hb.brN;have e3:=ha.prN;have e4:=hb.prN
 refine enter Tryz.func157 Tryz.ntmps157 rfl rfl (SF.s0 w) ?_
 simp only[cR]
 refine J0 ?_;refine bP (λ x2=>?_);refine bP (λ x3=>?_);refine gK ?_;refine Ti (by dsimp only[List.append]) ?_;refine Kc5 ?_;refine vB ?_;refine aB ?_
 (refine eR 10 (λ g10=>?_) (λ g10=>?_)<;>refine Ka0 ?_)
 all_goals (refine Kc6 ?_)
 all_goals (first|refine aH ?_|(refine eR 17 (λ g17=>?_) (λ g17=>?_)<;>refine Ka0 ?_))
 all_goals (refine Kc6 ?_)
 all_goals (first|refine aH ?_|(refine eR 24 (λ g24=>?_) (λ g24=>?_)<;>refine Ka0 ?_))
 all_goals (refine Kc6 ?_)
 all_goals (first|refine aH ?_|(refine eR 31 (λ g31=>?_) (λ g31=>?_)<;>refine Ka0 ?_))
 all_goals (refine yC ?_;(first|refine aH ?_|(refine aF ?_;refine aR (cV (hc:=λ w1 hw=>by simp only[e1,e2];exact jc (ha.br.eW hw.st) (hb.br.eW hw.st) ha.brS)) (λ x36=>?_)));refine cU ?_;refine aB ?_)
 all_goals (first|refine aH ?_|(refine eR 38 (λ g38=>?_) (λ g38=>?_)<;>refine Ka0 ?_))
 all_goals (refine Kc6 ?_)
 all_goals (first|refine aH ?_|(refine eR 45 (λ g45=>?_) (λ g45=>?_)<;>refine Ka0 ?_))
 all_goals (refine yC ?_;(first|refine aH ?_|(refine aF ?_;refine ld ?_));refine cU ?_;refine aB ?_)
 all_goals (first|refine aH ?_|(refine eR 52 (λ g52=>?_) (λ g52=>?_)<;>refine Ka0 ?_))
 all_goals (refine Kc6 ?_)
 all_goals (first|refine aH ?_|(refine eR 59 (λ g59=>?_) (λ g59=>?_)<;>refine Ka0 ?_))
 all_goals (refine yC ?_;(first|refine aH ?_|(refine aF ?_;refine aR (cV (hc:=λ w1 hw=>by simp only[e3,e4];exact nh (ha.pr.eW hw.st) (hb.pr.eW hw.st) ha.prS)) (λ x64=>?_)));refine cU ?_;refine aB ?_)
 all_goals (first|refine aH ?_|(refine eR 66 (λ g66=>?_) (λ g66=>?_)<;>refine Ka0 ?_))
 all_goals (refine Kc6 ?_)
 all_goals (first|refine aH ?_|(refine eR 73 (λ g73=>?_) (λ g73=>?_)<;>refine Ka0 ?_))
 all_goals (refine Kc6 ?_)
 all_goals (first|refine aH ?_|(refine eR 80 (λ g80=>?_) (λ g80=>?_)<;>refine Ka0 ?_))
 all_goals (refine Kc6 ?_)
 all_goals (first|refine aH ?_|(refine eR 87 (λ g87=>?_) (λ g87=>?_)<;>refine Ka0 ?_))
 all_goals (refine Kc6 ?_)
 all_goals (first|refine aH ?_|(refine eR 94 (λ g94=>?_) (λ g94=>?_)<;>refine Ka0 ?_))
 all_goals (refine Kc0 ?_;refine J1 ?_)
 all_goals
 refine aN Tryz.results157 (λ w hw=>?_)
 exact⟨_,rfl,by simp_all[oU],hw.done⟩
theorem Du(a:Nd)(w:World):Calls Tryz.prog 40 #[a.v] w λ e w'=>∃r:Bool,e=.returned (.bool r)/\(r=true↔(a.kind=3∨a.kind=5∨a.kind=6))/\St w [] [] w':=by
 refine enter Tryz.func40 Tryz.ntmps40 rfl rfl (SF.s0 w) ?_
 simp only[cR]
 refine J0 ?_;refine bP (λ x1=>?_);refine gK ?_;refine gN ?_;refine Kc2 ?_;refine aS ?_;refine iT ?_
 refine aZ (λ c5=>?_) (λ c5=>?_)
 ·refine bA ?_
  refine aZ (λ c5=>?_) (λ c5=>?_)
  ·refine cN ?_
   refine aN Tryz.results40 (λ w hw=>?_)
   exact⟨_,rfl,by simp_all,hw.done⟩
  ·refine Kb0 ?_
   refine aN Tryz.results40 (λ w hw=>?_)
   exact⟨_,rfl,by simp_all,hw.done⟩
 ·refine iT ?_
  refine aZ (λ c5=>?_) (λ c5=>?_)
  ·refine bA ?_
   refine aZ (λ c5=>?_) (λ c5=>?_)
   ·refine cN ?_
    refine aN Tryz.results40 (λ w hw=>?_)
    exact⟨_,rfl,by simp_all,hw.done⟩
   ·refine Kb0 ?_
    refine aN Tryz.results40 (λ w hw=>?_)
    exact⟨_,rfl,by simp_all,hw.done⟩
  ·refine dO ?_;refine M2 ?_
   refine aZ (λ c5=>?_) (λ c5=>?_)
   ·refine cN ?_
    refine aN Tryz.results40 (λ w hw=>?_)
    exact⟨_,rfl,by simp_all,hw.done⟩
   ·refine Kb0 ?_
    refine aN Tryz.results40 (λ w hw=>?_)
    exact⟨_,rfl,by simp_all,hw.done⟩
theorem Sg(a:Nd)(w:World):Calls Tryz.prog 105 #[a.v] w λ e w'=>∃r:Bool,e=.returned (.bool r)/\(r=true↔(a.kind=3∨a.kind=5∨a.kind=6))/\St w [] [] w':=by
 refine enter Tryz.func105 Tryz.ntmps105 rfl rfl (SF.s0 w) ?_
 simp only[cR]
 refine J0 ?_;refine bP (λ x1=>?_);refine J1 ?_;refine gN ?_;refine vB ?_;refine aB ?_
 (refine eR 6 (λ g6=>?_) (λ g6=>?_)<;>refine Ka0 ?_)
 all_goals (refine jo ?_;refine aB ?_)
 all_goals (first|refine aH ?_|(refine eR 11 (λ g11=>?_) (λ g11=>?_)<;>refine Ka0 ?_))
 all_goals (refine jo ?_;refine J1 ?_)
 all_goals
 refine aN Tryz.results105 (λ w hw=>?_)
 exact⟨_,rfl,by simp_all,hw.done⟩
end

/- Loops over slices that are read: contracts, the second part. -/
section
open Go.RowKit Go.Ct
theorem Nu{xs:List Int}{a:Option Addr}{ca:Nat}{w:World}(ha:Cl w a (aG xs))(hx:xs.length<4611686018427387904) :
  Calls Tryz.prog 159 #[.slice a xs.length ca] w λ e w'=>∃r:Bool,e=.returned (.bool r)/\(r=true↔Pos xs)/\St w [] [] w':=by
 refine enter Tryz.func159 Tryz.ntmps159 rfl rfl (SF.s1 ha) ?_
 simp only[cR]
 refine Ka7 ?_;refine Kb8 ?_
 refine eS [2,4,7,8,9,10,11,12,13] (λ k=>[(7,.int .i64 ((k:Nat):Int))]) (λ k=>k<=xs.length/\∀i,i<k->1<=xs.getD i 0) (λ k=>xs.length-k) (0) (⟨Nat.zero_le _,λ i hi=>absurd hi (Nat.not_lt_zero i)⟩) ?_ (λ k f hx=>?_)
 ·repeat (first|exact bB _|refine aW (by exact rfl) ?_)
 dsimp only[gG,List.map,List.cons_append,List.nil_append]
 refine Kb4 ?_
 refine aZ (λ c8=>?_) (λ c8=>?_)
 ·refine oW ?_;refine J0 ?_;refine Ue ?_;refine Ka4 ?_;refine vR ?_
  refine aZ (λ c12=>?_) (λ c12=>?_)
  ·refine cN ?_
   refine aN Tryz.results159 (λ w hw=>?_)
   exact⟨_,rfl,by simp only[Bool.false_eq_true,false_iff];intro h;have:=h k (by omega);omega,hw.done⟩
  ·refine Kc3 ?_
   refine dJ (k+1) ?_ ?_ ?_
   ·omega
   ·repeat' (first|exact bB _|refine aW ?_ ?_)
    exact rfl
   ·exact⟨by omega,λ i hi=>by rcases Nat.lt_succ_iff_lt_or_eq.1 hi with h|rfl;exact hx.2 i h;omega⟩
 ·refine bG rfl ?_;refine cN ?_
  refine aN Tryz.results159 (λ w hw=>?_)
  exact⟨_,rfl,by simp only[true_iff];intro i hi;exact hx.2 i (by omega),hw.done⟩
theorem K1{l:List Pr}{a:Option Addr}{ca:Nat}{w:World}(ha:Cl w a (cZ l))(hx:l.length<4611686018427387904) :
  Calls Tryz.prog 161 #[.slice a l.length ca] w λ e w'=>∃r:Bool,e=.returned (.bool r)/\(r=true↔Aj l)/\St w [] [] w':=by
 refine enter Tryz.func161 Tryz.ntmps161 rfl rfl (SF.s1 ha) ?_
 simp only[cR]
 refine Ka7 ?_;refine Kb8 ?_
 refine eS [2,4,7,8,9,10,11,12,13,14,15] (λ k=>[(7,.int .i64 ((k:Nat):Int))]) (λ k=>k<=l.length/\∀i,i<k->(l.getD i (⟨#[]⟩,0)).1.size<=64) (λ k=>l.length-k) (0) (⟨Nat.zero_le _,λ i hi=>absurd hi (Nat.not_lt_zero i)⟩) ?_ (λ k f hx=>?_)
 ·repeat (first|exact bB _|refine aW (by exact rfl) ?_)
 dsimp only[gG,List.map,List.cons_append,List.nil_append]
 refine Kb4 ?_
 refine aZ (λ c8=>?_) (λ c8=>?_)
 ·refine oW ?_;refine J0 ?_;refine Ue ?_;refine aP (λ x4=>?_);refine J5 ?_;refine gN ?_;refine jJ ?_;refine As ?_;refine aI ?_
  refine aZ (λ c14=>?_) (λ c14=>?_)
  ·refine cN ?_
   refine aN Tryz.results161 (λ w hw=>?_)
   exact⟨_,rfl,by simp only[Bool.false_eq_true,false_iff];intro h;have:=h k (by omega);omega,hw.done⟩
  ·refine Kc3 ?_
   refine dJ (k+1) ?_ ?_ ?_
   ·omega
   ·repeat' (first|exact bB _|refine aW ?_ ?_)
    exact rfl
   ·exact⟨by omega,λ i hi=>by rcases Nat.lt_succ_iff_lt_or_eq.1 hi with h|rfl;exact hx.2 i h;omega⟩
 ·refine bG rfl ?_;refine cN ?_
  refine aN Tryz.results161 (λ w hw=>?_)
  exact⟨_,rfl,by simp only[true_iff];intro i hi;exact hx.2 i (by omega),hw.done⟩
theorem Wu{l:List Pr}{a:Option Addr}{ca:Nat}{w:World}(ha:Cl w a (cZ l))(hx:l.length<4611686018427387904) :
  Calls Tryz.prog 140 #[.slice a l.length ca] w λ e w'=>∃r:Bool,e=.returned (.bool r)/\(r=true↔Aj l)/\St w [] [] w':=by
 refine enter Tryz.func140 Tryz.ntmps140 rfl rfl (SF.s1 ha) ?_
 simp only[cR]
 refine Jb ?_;refine K5 ?_
 refine eS [2,3,4,5,6,7,8,9,10,11,12,13,14,15,16] (λ k=>[(3,.int .i64 ((k:Nat):Int))]) (λ k=>k<=l.length/\∀i,i<k->(l.getD i (⟨#[]⟩,0)).1.size<=64) (λ k=>l.length-k) (0) (⟨Nat.zero_le _,λ i hi=>absurd hi (Nat.not_lt_zero i)⟩) ?_ (λ k f hx=>?_)
 ·repeat (first|exact bB _|refine aW (by exact rfl) ?_)
 dsimp only[gG,List.map,List.cons_append,List.nil_append]
 refine Gi ?_;refine dF ?_;refine vR ?_
 refine aZ (λ c7=>?_) (λ c7=>?_)
 ·refine oW ?_;refine iF ?_;refine iM ?_;refine J3 ?_;refine jJ ?_;refine As ?_;refine aI ?_
  refine aZ (λ c16=>?_) (λ c16=>?_)
  ·refine cN ?_
   refine aN Tryz.results140 (λ w hw=>?_)
   exact⟨_,rfl,by simp only[Bool.false_eq_true,false_iff];intro h;have:=h k (by omega);omega,hw.done⟩
  ·refine lC ?_;refine Ba ?_
   refine dJ (k+1) ?_ ?_ ?_
   ·omega
   ·repeat' (first|exact bB _|refine aW ?_ ?_)
    exact rfl
   ·exact⟨by omega,λ i hi=>by rcases Nat.lt_succ_iff_lt_or_eq.1 hi with h|rfl;exact hx.2 i h;omega⟩
 ·refine bG rfl ?_;refine cN ?_
  refine aN Tryz.results140 (λ w hw=>?_)
  exact⟨_,rfl,by simp only[true_iff];intro i hi;exact hx.2 i (by omega),hw.done⟩
theorem Uc{l:List Pr}{a:Option Addr}{ca:Nat}{w:World}(ha:Cl w a (cZ l))(hx:l.length<4611686018427387904) :
  Calls Tryz.prog 160 #[.slice a l.length ca] w λ e w'=>∃r:Bool,e=.returned (.bool r)/\(r=true↔ir l)/\St w [] [] w':=by
 refine enter Tryz.func160 Tryz.ntmps160 rfl rfl (SF.s1 ha) ?_
 simp only[cR]
 refine Jb ?_;refine K5 ?_
 refine eS [2,3,4,5,6,7,8,9,10,11,12,13,14,15,16,17,18,19,20,21] (λ k=>[(3,.int .i64 ((k:Nat):Int))]) (λ k=>1<=k/\k<=l.length+1/\∀i,1<=i->i<k->cW (l.getD (i-1) (⟨#[]⟩,0)).1 (l.getD i (⟨#[]⟩,0)).1=true) (λ k=>l.length-k) (1) (⟨Nat.le_refl _,by omega,λ i h1 hi=>by omega⟩) ?_ (λ k f hx=>?_)
 ·repeat (first|exact bB _|refine aW (by exact rfl) ?_)
 dsimp only[gG,List.map,List.cons_append,List.nil_append]
 refine Gi ?_;refine dF ?_;refine vR ?_
 refine aZ (λ c7=>?_) (λ c7=>?_)
 ·refine oW ?_;refine aS ?_;refine gB [0,1,2,3,4,5,6,7,8,9,10,11] ?_;refine gM ?_;refine vG ?_;refine gL ?_;refine lR ?_;refine gM ?_;refine gL ?_;refine lR ?_;refine Vq ?_;refine dV ?_
  refine aZ (λ c21=>?_) (λ c21=>?_)
  ·refine cN ?_
   refine aN Tryz.results160 (λ w hw=>?_)
   exact⟨_,rfl,by simp only[Bool.false_eq_true,false_iff];intro h;have:=h k (by omega) (by omega);rw[c21] at this;exact Bool.noConfusion this,hw.done⟩
  ·refine lC ?_;refine Ba ?_
   refine dJ (k+1) ?_ ?_ ?_
   ·omega
   ·repeat' (first|exact bB _|refine aW ?_ ?_)
    exact rfl
   ·exact⟨by omega,by omega,λ i h1 hi=>by rcases Nat.lt_succ_iff_lt_or_eq.1 hi with h|rfl;exact hx.2.2 i h1 h;exact c21⟩
 ·refine bG rfl ?_;refine cN ?_
  refine aN Tryz.results160 (λ w hw=>?_)
  exact⟨_,rfl,by simp only[true_iff];intro i h1 hi;exact hx.2.2 i h1 (by omega),hw.done⟩
theorem kR{l:List Pr}{a:Option Addr}{ca:Nat}{w:World}(ha:Cl w a (cZ l))(hx:l.length<4611686018427387904) :
  Calls Tryz.prog 139 #[.slice a l.length ca] w λ e w'=>∃r:Bool,e=.returned (.bool r)/\(r=true↔ir l)/\St w [] [] w':=by
 refine enter Tryz.func139 Tryz.ntmps139 rfl rfl (SF.s1 ha) ?_
 simp only[cR]
 refine Jb ?_;refine K5 ?_
 refine eS [2,3,4,5,6,7,8,9,10,11,12,13,14,15,16,17,18,19,20,21] (λ k=>[(3,.int .i64 ((k:Nat):Int))]) (λ k=>1<=k/\k<=l.length+1/\∀i,1<=i->i<k->cW (l.getD (i-1) (⟨#[]⟩,0)).1 (l.getD i (⟨#[]⟩,0)).1=true) (λ k=>l.length-k) (1) (⟨Nat.le_refl _,by omega,λ i h1 hi=>by omega⟩) ?_ (λ k f hx=>?_)
 ·repeat (first|exact bB _|refine aW (by exact rfl) ?_)
 dsimp only[gG,List.map,List.cons_append,List.nil_append]
 refine Gi ?_;refine dF ?_;refine vR ?_
 refine aZ (λ c7=>?_) (λ c7=>?_)
 ·refine oW ?_;refine aS ?_;refine gB [0,1,2,3,4,5,6,7,8,9,10,11] ?_;refine gM ?_;refine gL ?_;refine lR ?_;refine gM ?_;refine vG ?_;refine gL ?_;refine lR ?_;refine Yk ?_;refine dV ?_
  refine aZ (λ c21=>?_) (λ c21=>?_)
  ·refine cN ?_
   refine aN Tryz.results139 (λ w hw=>?_)
   exact⟨_,rfl,by simp only[Bool.false_eq_true,false_iff];intro h;have:=h k (by omega) (by omega);rw[vd c21] at this;exact Bool.noConfusion this,hw.done⟩
  ·refine lC ?_;refine Ba ?_
   refine dJ (k+1) ?_ ?_ ?_
   ·omega
   ·repeat' (first|exact bB _|refine aW ?_ ?_)
    exact rfl
   ·exact⟨by omega,by omega,λ i h1 hi=>by rcases Nat.lt_succ_iff_lt_or_eq.1 hi with h|rfl;exact hx.2.2 i h1 h;exact tj c21⟩
 ·refine bG rfl ?_;refine cN ?_
  refine aN Tryz.results139 (λ w hw=>?_)
  exact⟨_,rfl,by simp only[true_iff];intro i h1 hi;exact hx.2.2 i h1 (by omega),hw.done⟩
end

end Go.Proofs.YtadnboagdhcedaaGreatDoor
