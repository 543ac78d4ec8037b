/- Merged. -/
import Derived.Test.YtbajmaoegmbfgaaGreatGJoin
import Derived.Test.YtbajmaoegmbfgaaGreatGFun
import Derived.Test.YtbajmaoegmbfgaaGreatAuto
set_option linter.unusedSimpArgs false
set_option linter.unusedVariables false
namespace Go.Proofs.YtbajmaoegmbfgaaGreat
open Go.Proofs.Tryz
open Go.RowKit Go.Ct
section
variable{a b:Nd}{x1 x2:List Int}{y1 y2:List Pr}{w:World}
theorem W9(ha:sG w a x1 y1)(hb:sG w b x2 y2) :
  Calls prog 113 #[a.v,b.v] w λ e w'=>∃r:Bool,e=.returned (.bool r)/\(r=true↔sX a b x1 x2 y1 y2)/\St w [] [] w':=by
 have e1:=ha.brN;have e2:=hb.brN;have e3:=ha.prN;have e4:=hb.prN;refine enter func113 ntmps113 rfl rfl (SF.s0 w) ?_;simp only[cC]
 refine K1i ?_;intro x2 x3;refine jG ?_;refine iE ?_;refine J3 ?_;refine lN ?_;refine aA ?_;(refine eE 10 (λ g10=>?_) (λ g10=>?_)<;>refine Ka1 ?_);all_goals (refine B8 ?_;refine Q3 ?_;refine aA ?_)
 all_goals (first|refine aI ?_|(refine eE 17 (λ g17=>?_) (λ g17=>?_)<;>refine Ka1 ?_))
 all_goals (refine B8 ?_;refine Q3 ?_;refine aA ?_)
 all_goals (first|refine aI ?_|(refine eE 24 (λ g24=>?_) (λ g24=>?_)<;>refine Ka1 ?_))
 all_goals (refine B8 ?_;refine Q3 ?_;refine aA ?_)
 all_goals (first|refine aI ?_|(refine eE 31 (λ g31=>?_) (λ g31=>?_)<;>refine Ka1 ?_))
 all_goals (refine B8 ?_;refine Q3 ?_;refine aA ?_)
 all_goals (first|refine aI ?_|(refine eE 38 (λ g38=>?_) (λ g38=>?_)<;>refine Ka1 ?_))
 all_goals (refine B8 ?_;(first|refine aI ?_|(refine aF ?_;refine aAm ?_));refine Kc1 ?_)
 all_goals (first|refine aI ?_|(refine eE 45 (λ g45=>?_) (λ g45=>?_)<;>refine Ka1 ?_))
 all_goals (refine B8 ?_;refine Q3 ?_;refine aG ?_)
 all_goals
 refine bD (λ c51=>?_) (λ c51=>?_)
 ·all_goals refine cU ?_
  all_goals refine aS results113 (λ w hw=>?_);exact⟨_,rfl,by simp_all[sX],hw.done⟩
 ·try exact nv c51
  all_goals (refine aW ?_;refine iE ?_;refine J3 ?_;refine aP (cV (hc:=λ w1 hw=>by simp only[e1,e2];exact l9 (ha.br.gB hw.st) (hb.br.gB hw.st) ha.brS)) (λ x56=>?_);refine aA ?_)
  all_goals ((refine eE 57 (λ g57=>?_) (λ g57=>?_)<;>refine Ka1 ?_))
  all_goals (refine B8 ?_;(first|refine aI ?_|(refine aF ?_;refine aP (cV (hc:=λ w1 hw=>by simp only[e3,e4];exact aCL (ha.pr.gB hw.st) (hb.pr.gB hw.st) ha.prS)) (λ x62=>?_)));refine Kc1 ?_)
  all_goals (first|refine aI ?_|(refine eE 64 (λ g64=>?_) (λ g64=>?_)<;>refine Ka1 ?_))
  all_goals (refine Kd3 ?_)
  all_goals (first|refine aI ?_|(refine eE 71 (λ g71=>?_) (λ g71=>?_)<;>refine Ka1 ?_))
  all_goals (refine Kd3 ?_)
  all_goals (first|refine aI ?_|(refine eE 78 (λ g78=>?_) (λ g78=>?_)<;>refine Ka1 ?_))
  all_goals (refine Kd3 ?_)
  all_goals (first|refine aI ?_|(refine eE 85 (λ g85=>?_) (λ g85=>?_)<;>refine Ka1 ?_))
  all_goals (refine Kd3 ?_)
  all_goals (first|refine aI ?_|(refine eE 92 (λ g92=>?_) (λ g92=>?_)<;>refine Ka1 ?_))
  all_goals (refine B8 ?_;refine vY ?_;refine J1 ?_)
  all_goals refine aS results113 (λ w hw=>?_);exact⟨_,rfl,by simp_all[sX],hw.done⟩
theorem aCk(ha:sG w a x1 y1)(hb:sG w b x2 y2) :
  Calls prog 196 #[a.v,b.v] w λ e w'=>∃r:Bool,e=.returned (.bool r)/\(r=true↔sX a b x1 x2 y1 y2)/\St w [] [] w':=by
 have e1:=ha.brN;have e2:=hb.brN;have e3:=ha.prN;have e4:=hb.prN;refine enter func196 ntmps196 rfl rfl (SF.s0 w) ?_;simp only[cC]
 refine K1i ?_;intro x2 x3;refine jG ?_;refine cf (by dsimp only[List.append]) ?_;refine Kd2 ?_;refine mJ ?_;refine aA ?_;(refine eE 10 (λ g10=>?_) (λ g10=>?_)<;>refine Ka1 ?_);all_goals (refine Kd3 ?_)
 all_goals (first|refine aI ?_|(refine eE 17 (λ g17=>?_) (λ g17=>?_)<;>refine Ka1 ?_))
 all_goals (refine Kd3 ?_)
 all_goals (first|refine aI ?_|(refine eE 24 (λ g24=>?_) (λ g24=>?_)<;>refine Ka1 ?_))
 all_goals (refine Kd3 ?_)
 all_goals (first|refine aI ?_|(refine eE 31 (λ g31=>?_) (λ g31=>?_)<;>refine Ka1 ?_))
 all_goals (refine B8 ?_;(first|refine aI ?_|(refine aF ?_;refine aP (cV (hc:=λ w1 hw=>by simp only[e1,e2];exact ua (ha.br.gB hw.st) (hb.br.gB hw.st) ha.brS)) (λ x36=>?_)));refine Kc1 ?_)
 all_goals (first|refine aI ?_|(refine eE 38 (λ g38=>?_) (λ g38=>?_)<;>refine Ka1 ?_))
 all_goals (refine Kd3 ?_)
 all_goals (first|refine aI ?_|(refine eE 45 (λ g45=>?_) (λ g45=>?_)<;>refine Ka1 ?_))
 all_goals (refine B8 ?_;(first|refine aI ?_|(refine aF ?_;refine aAu ?_));refine Kc1 ?_)
 all_goals (first|refine aI ?_|(refine eE 52 (λ g52=>?_) (λ g52=>?_)<;>refine Ka1 ?_))
 all_goals (refine Kd3 ?_)
 all_goals (first|refine aI ?_|(refine eE 59 (λ g59=>?_) (λ g59=>?_)<;>refine Ka1 ?_))
 all_goals (refine B8 ?_;(first|refine aI ?_|(refine aF ?_;refine aP (cV (hc:=λ w1 hw=>by simp only[e3,e4];exact aAS (ha.pr.gB hw.st) (hb.pr.gB hw.st) ha.prS)) (λ x64=>?_)));refine Kc1 ?_)
 all_goals (first|refine aI ?_|(refine eE 66 (λ g66=>?_) (λ g66=>?_)<;>refine Ka1 ?_))
 all_goals (refine Kd3 ?_)
 all_goals (first|refine aI ?_|(refine eE 73 (λ g73=>?_) (λ g73=>?_)<;>refine Ka1 ?_))
 all_goals (refine Kd3 ?_)
 all_goals (first|refine aI ?_|(refine eE 80 (λ g80=>?_) (λ g80=>?_)<;>refine Ka1 ?_))
 all_goals (refine Kd3 ?_)
 all_goals (first|refine aI ?_|(refine eE 87 (λ g87=>?_) (λ g87=>?_)<;>refine Ka1 ?_))
 all_goals (refine Kd3 ?_)
 all_goals (first|refine aI ?_|(refine eE 94 (λ g94=>?_) (λ g94=>?_)<;>refine Ka1 ?_))
 all_goals (refine B8 ?_;refine vY ?_;refine J1 ?_)
 all_goals
 refine aS results196 (λ w hw=>?_);exact⟨_,rfl,by simp_all[sX],hw.done⟩
theorem Vt(a:Nd)(w:World):Calls prog 80 #[a.v] w λ e w'=>∃r:Bool,e=.returned (.bool r)/\(r=true↔(a.kind=3∨a.kind=5∨a.kind=6))/\St w [] [] w':=by
 refine enter func80 ntmps80 rfl rfl (SF.s0 w) ?_;simp only[cC];refine K1q ?_;intro x1;refine jG ?_;refine iE ?_;refine aG ?_;refine cO ?_;refine aT ?_;refine lP ?_;refine bD (λ c5=>?_) (λ c5=>?_)
 ·refine aW ?_;refine bD (λ c5=>?_) (λ c5=>?_);·refine cU ?_;refine aS results80 (λ w hw=>?_);exact⟨_,rfl,by simp_all,hw.done⟩
  ·refine Kb0 ?_;refine aS results80 (λ w hw=>?_);exact⟨_,rfl,by simp_all,hw.done⟩
 ·refine lP ?_;refine bD (λ c5=>?_) (λ c5=>?_)
  ·refine aW ?_;refine bD (λ c5=>?_) (λ c5=>?_);·refine cU ?_;refine aS results80 (λ w hw=>?_);exact⟨_,rfl,by simp_all,hw.done⟩
   ·refine Kb0 ?_;refine aS results80 (λ w hw=>?_);exact⟨_,rfl,by simp_all,hw.done⟩
  ·refine dS ?_;refine Ti ?_;refine bD (λ c5=>?_) (λ c5=>?_);·refine cU ?_;refine aS results80 (λ w hw=>?_);exact⟨_,rfl,by simp_all,hw.done⟩
   ·refine Kb0 ?_;refine aS results80 (λ w hw=>?_);exact⟨_,rfl,by simp_all,hw.done⟩
theorem yI(a:Nd)(w:World):Calls prog 41 #[a.v] w λ e w'=>∃r:Bool,e=.returned (.bool r)/\(r=true↔(a.kind=3∨a.kind=5∨a.kind=6))/\St w [] [] w':=by
 refine enter func41 ntmps41 rfl rfl (SF.s0 w) ?_;simp only[cC];refine K1q ?_;intro x1;refine J1 ?_;refine iE ?_;refine mJ ?_;refine aA ?_;(refine eE 6 (λ g6=>?_) (λ g6=>?_)<;>refine Ka1 ?_);all_goals (refine J78 ?_;refine aA ?_)
 all_goals (first|refine aI ?_|(refine eE 11 (λ g11=>?_) (λ g11=>?_)<;>refine Ka1 ?_))
 all_goals (refine J78 ?_;refine J1 ?_)
 all_goals
 refine aS results41 (λ w hw=>?_);exact⟨_,rfl,by simp_all,hw.done⟩
end
section
variable{a:Option Addr}{ca:Nat}{w:World}{l:List Pr}
theorem Uf{xs:List Int}(ha:Cl w a (aH xs))(hx:xs.length<4611686018427387904) :
  Calls prog 199 #[.slice a xs.length ca] w λ e w'=>∃r:Bool,e=.returned (.bool r)/\(r=true↔Pos xs)/\St w [] [] w':=by
 refine enter func199 ntmps199 rfl rfl (SF.s1 ha) ?_;simp only[cC];refine Ka7 ?_;refine dV ?_;refine Kd5 ?_;refine gF [2,4,7,8,9,10,11,12,13] (λ k=>[(7,.int .i64 ((k:Nat):Int))]) (λ k=>k<=xs.length/\∀i,i<k->1<=xs.getD i 0) (λ k=>xs.length-k) (0) (⟨Nat.zero_le _,λ i hi=>absurd hi (Nat.not_lt_zero i)⟩) ?_ (λ k f hx=>?_);·repeat (first|exact bF _|refine aX (by exact rfl) ?_)
 refine K0a ?_;refine Kd7 ?_;refine bD (λ c8=>?_) (λ c8=>?_)
 ·refine rT ?_;refine J0 ?_;refine Qv ?_;refine Ka5 ?_;refine wF ?_;refine bD (λ c12=>?_) (λ c12=>?_);·refine cU ?_;refine aS results199 (λ w hw=>?_);exact⟨_,rfl,by simp only[Bool.false_eq_true,false_iff];intro h;have:=h k (by omega);omega,hw.done⟩
  ·refine pE ?_;refine Kc7 ?_;refine eG (k+1) ?_ ?_ ?_;·omega
   ·repeat' (first|exact bF _|refine aX ?_ ?_)
    exact rfl
   ·exact⟨by omega,λ i hi=>by rcases Nat.lt_succ_iff_lt_or_eq.1 hi with h|rfl;exact hx.2 i h;omega⟩
 ·refine K2q ?_;refine aS results199 (λ w hw=>?_);exact⟨_,rfl,by simp only[true_iff];intro i hi;exact hx.2 i (by omega),hw.done⟩
theorem Qe(ha:Cl w a (dF l))(hx:l.length<4611686018427387904) :
  Calls prog 200 #[.slice a l.length ca] w λ e w'=>∃r:Bool,e=.returned (.bool r)/\(r=true↔Jl l)/\St w [] [] w':=by
 refine enter func200 ntmps200 rfl rfl (SF.s1 ha) ?_;simp only[cC];refine Ka7 ?_;refine dV ?_;refine Kd5 ?_;refine gF [2,4,7,8,9,10,11,12,13,14,15] (λ k=>[(7,.int .i64 ((k:Nat):Int))]) (λ k=>k<=l.length/\∀i,i<k->(l.getD i (⟨#[]⟩,0)).1.size<=64) (λ k=>l.length-k) (0) (⟨Nat.zero_le _,λ i hi=>absurd hi (Nat.not_lt_zero i)⟩) ?_ (λ k f hx=>?_);·repeat (first|exact bF _|refine aX (by exact rfl) ?_)
 refine K0a ?_;refine Kd7 ?_;refine bD (λ c8=>?_) (λ c8=>?_)
 ·refine rT ?_;refine J0 ?_;refine Qv ?_;refine aJ (λ x4=>?_);refine J5 ?_;refine iE ?_;refine kW ?_;refine Eo ?_;refine aG ?_;refine bD (λ c14=>?_) (λ c14=>?_);·refine cU ?_;refine aS results200 (λ w hw=>?_);exact⟨_,rfl,by simp only[Bool.false_eq_true,false_iff];intro h;have:=h k (by omega);omega,hw.done⟩
  ·refine pE ?_;refine Kc7 ?_;refine eG (k+1) ?_ ?_ ?_;·omega
   ·repeat' (first|exact bF _|refine aX ?_ ?_)
    exact rfl
   ·exact⟨by omega,λ i hi=>by rcases Nat.lt_succ_iff_lt_or_eq.1 hi with h|rfl;exact hx.2 i h;omega⟩
 ·refine K2q ?_;refine aS results200 (λ w hw=>?_);exact⟨_,rfl,by simp only[true_iff];intro i hi;exact hx.2 i (by omega),hw.done⟩
theorem oc(ha:Cl w a (dF l))(hx:l.length<4611686018427387904) :
  Calls prog 171 #[.slice a l.length ca] w λ e w'=>∃r:Bool,e=.returned (.bool r)/\(r=true↔Jl l)/\St w [] [] w':=by
 refine enter func171 ntmps171 rfl rfl (SF.s1 ha) ?_;simp only[cC];refine Je ?_;refine Fq ?_;refine gF [2,3,4,5,6,7,8,9,10,11,12,13,14,15,16] (λ k=>[(3,.int .i64 ((k:Nat):Int))]) (λ k=>k<=l.length/\∀i,i<k->(l.getD i (⟨#[]⟩,0)).1.size<=64) (λ k=>l.length-k) (0) (⟨Nat.zero_le _,λ i hi=>absurd hi (Nat.not_lt_zero i)⟩) ?_ (λ k f hx=>?_);·repeat (first|exact bF _|refine aX (by exact rfl) ?_)
 refine K0a ?_;refine K1w ?_;refine bD (λ c7=>?_) (λ c7=>?_)
 ·refine rT ?_;refine jD ?_;refine fM ?_;refine J3 ?_;refine kW ?_;refine Eo ?_;refine aG ?_;refine bD (λ c16=>?_) (λ c16=>?_);·refine cU ?_;refine aS results171 (λ w hw=>?_);exact⟨_,rfl,by simp only[Bool.false_eq_true,false_iff];intro h;have:=h k (by omega);omega,hw.done⟩
  ·refine Kc3 ?_;refine eG (k+1) ?_ ?_ ?_;·omega
   ·repeat' (first|exact bF _|refine aX ?_ ?_)
    exact rfl
   ·exact⟨by omega,λ i hi=>by rcases Nat.lt_succ_iff_lt_or_eq.1 hi with h|rfl;exact hx.2 i h;omega⟩
 ·refine K2q ?_;refine aS results171 (λ w hw=>?_);exact⟨_,rfl,by simp only[true_iff];intro i hi;exact hx.2 i (by omega),hw.done⟩
theorem Ky(ha:Cl w a (dF l))(hx:l.length<4611686018427387904) :
  Calls prog 193 #[.slice a l.length ca] w λ e w'=>∃r:Bool,e=.returned (.bool r)/\(r=true↔zx l)/\St w [] [] w':=by
 refine enter func193 ntmps193 rfl rfl (SF.s1 ha) ?_;simp only[cC];refine Je ?_;refine Fq ?_;refine gF [2,3,4,5,6,7,8,9,10,11,12,13,14,15,16,17,18,19,20,21] (λ k=>[(3,.int .i64 ((k:Nat):Int))]) (λ k=>1<=k/\k<=l.length+1/\∀i,1<=i->i<k->dA (l.getD (i-1) (⟨#[]⟩,0)).1 (l.getD i (⟨#[]⟩,0)).1=true) (λ k=>l.length-k) (1) (⟨Nat.le_refl _,by omega,λ i h1 hi=>by omega⟩) ?_ (λ k f hx=>?_);·repeat (first|exact bF _|refine aX (by exact rfl) ?_)
 refine K0a ?_;refine K1w ?_;refine bD (λ c7=>?_) (λ c7=>?_)
 ·refine rT ?_;refine aT ?_;refine K0x ?_;refine iW ?_;refine Qy ?_;refine jF ?_;refine mE ?_;refine iW ?_;refine jF ?_;refine mE ?_;refine ry ?_;refine eN ?_;refine bD (λ c21=>?_) (λ c21=>?_);·refine cU ?_;refine aS results193 (λ w hw=>?_);exact⟨_,rfl,by simp only[Bool.false_eq_true,false_iff];intro h;have:=h k (by omega) (by omega);rw[c21] at this;exact Bool.noConfusion this,hw.done⟩
  ·refine Kc3 ?_;refine eG (k+1) ?_ ?_ ?_;·omega
   ·repeat' (first|exact bF _|refine aX ?_ ?_)
    exact rfl
   ·exact⟨by omega,by omega,λ i h1 hi=>by rcases Nat.lt_succ_iff_lt_or_eq.1 hi with h|rfl;exact hx.2.2 i h1 h;exact c21⟩
 ·refine K2q ?_;refine aS results193 (λ w hw=>?_);exact⟨_,rfl,by simp only[true_iff];intro i h1 hi;exact hx.2.2 i h1 (by omega),hw.done⟩
theorem mS(ha:Cl w a (dF l))(hx:l.length<4611686018427387904) :
  Calls prog 109 #[.slice a l.length ca] w λ e w'=>∃r:Bool,e=.returned (.bool r)/\(r=true↔zx l)/\St w [] [] w':=by
 refine enter func109 ntmps109 rfl rfl (SF.s1 ha) ?_;simp only[cC];refine Je ?_;refine Fq ?_;refine gF [2,3,4,5,6,7,8,9,10,11,12,13,14,15,16,17,18,19,20,21] (λ k=>[(3,.int .i64 ((k:Nat):Int))]) (λ k=>1<=k/\k<=l.length+1/\∀i,1<=i->i<k->dA (l.getD (i-1) (⟨#[]⟩,0)).1 (l.getD i (⟨#[]⟩,0)).1=true) (λ k=>l.length-k) (1) (⟨Nat.le_refl _,by omega,λ i h1 hi=>by omega⟩) ?_ (λ k f hx=>?_);·repeat (first|exact bF _|refine aX (by exact rfl) ?_)
 refine K0a ?_;refine K1w ?_;refine bD (λ c7=>?_) (λ c7=>?_)
 ·refine rT ?_;refine aT ?_;refine K0x ?_;refine iW ?_;refine jF ?_;refine mE ?_;refine iW ?_;refine Qy ?_;refine jF ?_;refine mE ?_;refine m7 ?_;refine eN ?_;refine bD (λ c21=>?_) (λ c21=>?_);·refine cU ?_;refine aS results109 (λ w hw=>?_);exact⟨_,rfl,by simp only[Bool.false_eq_true,false_iff];intro h;have:=h k (by omega) (by omega);rw[aCM c21] at this;exact Bool.noConfusion this,hw.done⟩
  ·refine Kc3 ?_;refine eG (k+1) ?_ ?_ ?_;·omega
   ·repeat' (first|exact bF _|refine aX ?_ ?_)
    exact rfl
   ·exact⟨by omega,by omega,λ i h1 hi=>by rcases Nat.lt_succ_iff_lt_or_eq.1 hi with h|rfl;exact hx.2.2 i h1 h;exact aDA c21⟩
 ·refine K2q ?_;refine aS results109 (λ w hw=>?_);exact⟨_,rfl,by simp only[true_iff];intro i h1 hi;exact hx.2.2 i h1 (by omega),hw.done⟩
end
section
variable{w w':World}{F:Fr}{o:Ow}{a:Option Addr}{c:Nat}{n:Nd}{xs:List Int}{ys:List Pr}
theorem nf(o:Int)(w:World):Calls prog 202 #[.int .i64 o] w λ e w'=>e=.returned ({Nd.zero with kind:=7,bS:=o}:Nd).v/\St w [] [] w':=by refine enter func202 ntmps202 rfl rfl (SF.s0 w) ?_;simp only[cC];refine J0 ?_;refine aJ (λ x2=>?_);refine aG ?_;refine J2 ?_;refine wU ?_;refine aZ results202 (λ w hw=>?_);exact⟨rfl,hw.done⟩
theorem SF.frz(h:SF w [] [] [] F [o] w'):SF w [] [] [] ((o.p,o.cs)::F) [] w':=h.freeze .head (by simp)
theorem SF.aEw{o2:Ow}(h:SF w [] [] [] F [o,o2] w'):SF w [] [] [] ((o2.p,o2.cs)::(o.p,o.cs)::F) [] w':=(h.freeze .head (by simp)).freeze .head (by simp)
theorem Vf:yV prog 164 24=true:=by kernel_rfl
theorem bg:yV prog 37 8=true:=by kernel_rfl
theorem Z5{l:List Pr}(ha:Cl w a (dF l))(hl:l.length<=11728124029610):Calls prog 124 #[.slice a l.length c] w λ e w' =>
  ∃p:Option Addr,e=.returned (.slice p l.length l.length)/\(l=[]->p=none)/\SF w [] [] [] [] [⟨p,dF l,l.length,164,2⟩] w':=by
 refine enter func124 ntmps124 rfl rfl (SF.s1 ha) ?_;simp only[cC];refine Ka7 ?_;refine dV ?_;refine tG ?_;refine bD (λ c6=>?_) (λ c6=>?_);·have hl0:l=[]:=List.eq_nil_of_length_eq_zero (by omega);subst hl0;refine cU ?_;refine aS results124 (λ w hw=>?_);exact⟨none,rfl,λ _=>rfl,(hw.kQ 164 2).bB⟩
 ·refine Kb3 ?_;refine dV ?_;refine aP (o0 rf rf ep1 Vf om om) (λ x9=>?_);refine zQ ?_;refine ko (λ x12=>?_);refine aG ?_;refine Ka4 ?_;refine aS results124 (λ w hw=>?_);exact⟨some ⟨x9,0,none⟩,rfl,λ h=>absurd (congrArg List.length h) (by simpa using c6),by simpa using hw.bB (H':=[]) (F':=[])⟩
theorem ab{l:List Int}(ha:Cl w a (aH l))(hl:l.length<=35184372088832):Calls prog 123 #[.slice a l.length c] w λ e w' =>
  ∃p:Option Addr,e=.returned (.slice p l.length l.length)/\(l=[]->p=none)/\SF w [] [] [] [] [⟨p,aH l,l.length,37,1⟩] w':=by
 refine enter func123 ntmps123 rfl rfl (SF.s1 ha) ?_;simp only[cC];refine Ka7 ?_;refine dV ?_;refine tG ?_;refine bD (λ c6=>?_) (λ c6=>?_);·have hl0:l=[]:=List.eq_nil_of_length_eq_zero (by omega);subst hl0;refine cU ?_;refine aS results123 (λ w hw=>?_);exact⟨none,rfl,λ _=>rfl,(hw.kQ 37 1).bB⟩
 ·refine Kb3 ?_;refine dV ?_;refine aP (qp rf rf dh bg om om) (λ x9=>?_);refine zQ ?_;refine ko (λ x12=>?_);refine aG ?_;refine Ka4 ?_;refine aS results123 (λ w hw=>?_);exact⟨some ⟨x9,0,none⟩,rfl,λ h=>absurd (congrArg List.length h) (by simpa using c6),by simpa using hw.bB (H':=[]) (F':=[])⟩
theorem Yv(hr:sG w n xs ys)(h1:xs.length<=35184372088832)(h2:ys.length<=11728124029610):Calls prog 78 #[n.v] w λ e w' =>
  ∃p:Option Addr×Option Addr,e=.returned ({n with brA:=p.1,brC:=xs.length,prA:=p.2,dF:=ys.length}:Nd).v/\((xs=[]->p.1=none)/\(ys=[]->p.2=none))/\SF w [] [] [] [] [⟨p.2,dF ys,ys.length,164,2⟩,⟨p.1,aH xs,xs.length,37,1⟩] w':=by
 have e1:=hr.brN;have e2:=hr.prN;refine enter func78 ntmps78 rfl rfl (SF.s2 hr.br hr.pr) ?_;simp only[cC]
 simp only[Nd.v,Nd.cells];refine K1q ?_;intro x1;refine aJ (λ x2=>?_);refine aG ?_;refine iE ?_;refine aD (Tg (Hc:=λ _=>[]) (Fc:=λ _=>[]) (hc:=λ w1 hw=>by rw[e1];exact ab (hw.cl fin) h1)) (λ x5 h5=>?_);refine vO ?_;refine iE ?_;refine aD (Tg (Hc:=λ _=>[]) (Fc:=λ _=>[]) (hc:=λ w1 hw=>by rw[e2];exact Z5 (hw.cl fin) h2)) (λ x9 h9=>?_);refine vO ?_;refine Ka9 ?_;refine aZ results78 (λ w hw=>?_);exact⟨(x5,x9),by rw[e1,e2];rfl,⟨h5,h9⟩,hw.bB⟩
theorem Xi(hr:sG w n xs ys)(h1:xs.length<=35184372088832)(h2:ys.length<=11728124029610):Calls prog 78 #[n.v] w λ e w' =>
  ∃p:Option Addr×Option Addr,e=.returned ({n with brA:=p.1,brC:=xs.length,prA:=p.2,dF:=ys.length}:Nd).v/\((xs=[]->p.1=none)/\(ys=[]->p.2=none))/\SF w [] [] [] [(p.1,aH xs),(p.2,dF ys)] [] w':=(Yv hr h1 h2).mono λ _ _ ⟨p,he,hp,hs⟩=>⟨p,he,hp,SF.aEw hs⟩
end
end Go.Proofs.YtbajmaoegmbfgaaGreat
namespace Go.Ct
section
def fG:aQ:=⟨{Nd.zero with kind:=1},[],[]⟩
def aB(L:List aQ)(r:Int):aQ:=if 1<=r/\r<=L.length then L.getD (r-1).toNat aQ.zero else aQ.zero
theorem qY{L:List aQ}{r:Int}(h:¬(1<=r/\r<=L.length)):aB L r=aQ.zero:=if_neg h
theorem tC{L:List aQ}{k:Nat}(h:k<L.length):aB L ((k+1:Nat):Int)=L.getD k aQ.zero:=by unfold aB;rw[if_pos (by omega),show(((k+1:Nat):Int)-1).toNat=k by omega]
def cI(L:List aQ):List aQ:=fG::fG::L
theorem kS(L:List aQ):(cI L).length=L.length+2:=rfl
theorem Q8:fG.Fit:=⟨rfl,rfl,by decide,by decide⟩
theorem Fits.all{L:List aQ}(h:Fits L):Fits (cI L):=λ v hv=>by
 simp only[cI,List.mem_cons] at hv;rcases hv with rfl|rfl|hv;·exact Q8
 ·exact Q8
 ·exact h v hv
theorem yK{L:List aQ}(h:Fits L)(r:Int):(aB L r).Fit:=by
 unfold aB;split;·rename_i hr;exact h.at (by omega)
 ·exact P6
structure AX where
 pn:Option Addr
 cn:Nat
 pc:Option Addr
 cc:Nat
 b1:Option Addr
 c1:Nat
 b2:Option Addr
 c2:Nat
def fL(k:Int)(cs:List Int)(init:Int):List Int:=if k=2∨k=3∨k=5∨k=6∨k=8 then cs++[init] else cs
def pP(n:Nd)(xs:List Int)(ys:List Pr)(c:Nat)(x:AX):aQ :=aQ.mk {n with main:=if n.kind=2 then((c+1:Nat):Int) else 0,prev:=if n.kind=3∨n.kind=5∨n.kind=6 then((c+1:Nat):Int) else 0,status:=if n.kind=8 then((c+1:Nat):Int) else 0,brA:=x.b1,brN:=xs.length,brC:=x.c1,prA:=x.b2,prN:=ys.length,dF:=x.c2} xs ys
theorem mH{k:Int}{cs:List Int}{init:Int}:cs.length<=(fL k cs init).length/\(fL k cs init).length<=cs.length+1:=by unfold fL;split<;>simp
theorem N6{n:Nd}{xs:List Int}{ys:List Pr}{c:Nat}{x:AX}(h1:xs.length<=35184372088832)(h2:ys.length<=11728124029610):(pP n xs ys c x).Fit:=⟨rfl,rfl,h1,h2⟩
def aQ.at_(v:aQ)(p q:Option Addr):aQ:=⟨{v.nd with brA:=p,brC:=v.xs.length,prA:=q,dF:=v.ys.length},v.xs,v.ys⟩
theorem aQ.V4{v:aQ}(h:v.Fit)(p q:Option Addr):(v.at_ p q).Fit:=⟨h.brN,h.prN,h.brS,h.prS⟩
end
end Go.Ct
namespace Go.Proofs.YtbajmaoegmbfgaaGreat
open Go.Proofs.Tryz
open Go.RowKit Go.Ct
section
variable{w:World}{D:List Nat}{b:Nat}{L:List aQ}{cs:List Int}{gen acc:Int}{pn pc:Option Addr}{cn cc:Nat}{A:Fr}
theorem sr(w:World):Calls prog 64 #[] w λ e w'=>∃q:Nat×Option Addr,e=.returned (.pointer (some ⟨q.1,0,none⟩))/\True /\
  SF w [] [(q.1,mO [fG,fG] [] 0 0 q.2 2 none 0)] [] [] (mW [fG,fG] [] q.2 2 none 0) w':=by refine enter func64 ntmps64 rfl rfl (SF.s0 w) ?_;simp only[cC];refine cU ?_;refine J0 ?_;refine bM ?_;refine bM ?_;refine aP (Ul (c:=2) (sz:=14) rfl (λ _=>cW tH Kg rfl rfl rfl rfl (by simp only[Ey,oE,List.cons_append,List.nil_append];exact rfl))) (λ x3=>?_);refine bM ?_;refine bM ?_;refine bJ (λ x6=>?_);refine J1 ?_;refine aS results64 (λ w hw=>?_);exact⟨(x6,some ⟨x3,0,none⟩),rfl,trivial,(SF.gj (hw.kQ 37 1)).bB⟩
theorem gi(hs:SF w D [(b,mO L cs gen acc pn cn pc cc)] A [] (mW L cs pn cn pc cc) w)(r:Int)(hr:r<1):Calls prog 25 #[.pointer (some ⟨b,0,none⟩),.int .i64 r] w λ e w'=>∃q:Unit,e=.returned (aB L r).nd.v/\True /\
  SF w D [(b,mO L cs gen acc pn cn pc cc)] [] [] (mW L cs pn cn pc cc) w':=by
 refine enter func25 ntmps25 rfl rfl (zM hs) ?_;simp only[cC];refine K0t ?_;intro x4;refine jS ?_;refine A1 ?_;(refine eE 7 (λ g7=>?_) (λ g7=>?_)<;>(try (exfalso;omega))<;>(refine aI ?_));refine J79 ?_;refine Ts ?_;refine Ka8 ?_;refine bD (λ c16=>?_) (λ c16=>?_)
 ·try (exfalso;omega)
  refine Kc0 ?_;refine aZ results25 (λ w hw=>?_);exact⟨(),by rw[qY (by omega)];rfl,trivial,hw.bB⟩
 ·exact nv c16
theorem pw(hs:SF w D [(b,mO L cs gen acc pn cn pc cc)] A [] (mW L cs pn cn pc cc) w){k:Nat}(hk:(k:Int)<9223372036854775807)(hl:L.length<=274877906944):Calls prog 25 #[.pointer (some ⟨b,0,none⟩),.int .i64 ((k+1:Nat):Int)] w λ e w'=>∃q:Unit,e=.returned (aB L ((k+1:Nat):Int)).nd.v/\True /\
  SF w D [(b,mO L cs gen acc pn cn pc cc)] [] [] (mW L cs pn cn pc cc) w':=by
 refine enter func25 ntmps25 rfl rfl (zM hs) ?_;simp only[cC];refine K0t ?_;intro x4;refine jS ?_;refine A1 ?_;(refine Ka3 ?_);refine J79 ?_;refine Ts ?_;refine Ka8 ?_;refine bD (λ c16=>?_) (λ c16=>?_)
 ·try (exfalso;omega)
  refine Kc0 ?_;refine aZ results25 (λ w hw=>?_);(exact⟨(),by rw[qY (by omega)];rfl,trivial,hw.bB⟩)
 ·try (exfalso;omega)
  refine aW ?_;refine Jw ?_;refine J3 ?_;refine aA ?_;refine sV ?_;refine Qv ?_;refine J5 ?_;refine aZ results25 (λ w hw=>?_);(exact⟨(),by rw[tC (by omega)];rfl,trivial,hw.bB⟩)
theorem u6(hs:SF w D [(b,mO L cs gen acc pn cn pc cc)] A [] (mW L cs pn cn pc cc) w)(r:Int)(hr:r<=9223372036854775807)(hl:L.length<=274877906944):Calls prog 25 #[.pointer (some ⟨b,0,none⟩),.int .i64 r] w λ e w'=>∃q:Unit,e=.returned (aB L r).nd.v/\True /\
  SF w D [(b,mO L cs gen acc pn cn pc cc)] [] [] (mW L cs pn cn pc cc) w':=by
 rcases Int.lt_or_le r 1 with h|h;·exact gi hs r h
 ·obtain⟨k,rfl⟩:∃k:Nat,r=((k+1:Nat):Int):=⟨(r-1).toNat,by omega⟩;exact pw hs (by omega) hl
end
section
variable{w:World}{D:List Nat}{b:Nat}{L:List aQ}{cs:List Int}{gen acc:Int}{pn pc:Option Addr}{cn cc:Nat}{A:Fr}
variable{n:Nd}{xs:List Int}{ys:List Pr}
theorem Ht(init:Int)(hs:SF w D [(b,mO L cs gen acc pn cn pc cc)] [(n.brA,aH xs),(n.prA,dF ys)] [] (mW L cs pn cn pc cc) w)(e1:n.brN=xs.length)(e2:n.prN=ys.length)(h1:xs.length<=274877906944)(h2:ys.length<=274877906944)(hl:L.length<=274877906944)(hc:cs.length<=274877906944) :
  Calls prog 92 #[.pointer (some ⟨b,0,none⟩),n.v,.int .i64 init] w λ e w'=>∃x:AX,e=.returned (.int .i64 ((L.length+1:Nat):Int))/\True /\
   SF w D [(b,mO (L++[pP n xs ys cs.length x]) (fL n.kind cs init) gen acc x.pn x.cn x.pc x.cc)] [] (pP n xs ys cs.length x).fr (mW (L++[pP n xs ys cs.length x]) (fL n.kind cs init) x.pn x.cn x.pc x.cc) w':=by
 refine enter func92 ntmps92 rfl rfl (zM hs) ?_;simp only[cC];simp only[Nd.v,Nd.cells];refine J0 ?_;refine bJ (λ x4=>?_);refine J1 ?_;refine Ka6 ?_;refine lW (λ _=>?_);refine aE ?_;refine lW (λ _=>?_);refine vO ?_;refine K2f ?_;refine bD (λ c12=>?_) (λ c12=>?_)
 ·try (exfalso;omega)
  refine Km ?_;refine aD (cM (hc:=λ w hs=>mB init hs hc)) (λ x16 h16=>?_);refine vO ?_;refine eV ?_;refine J0 ?_;refine iZ (λ x32=>?_);refine J3 ?_;(refine fF (λ x35=>?_);try (refine eP (λ h35=>?_)));refine K2a ?_;intro x37;(refine fF (λ x40=>?_);try (refine eP (λ h40=>?_)));refine K0g ?_;refine cE (h:=λ x49=>?_);((refine dB (i:=8) (hq:=(bG.eM (gA (sz:=14) rf rf zH (by rw[eC]) fin rfl rfl Pf rfl (by decide) gS om) vS)) (h:=λ x50=>?_);try (refine eK (λ h50=>?_))));refine K0k ?_;intro w hw h2;simp only[sR,List.nil_append] at h2;refine K1c ?_;intro h3;exact⟨⟨x50.1,x50.2,x16.1,x16.2,x35.1,x35.2,x40.1,x40.2⟩,rfl,trivial,by simpa[mO,aO,mW,pP,aQ.fr,fL,kJ,Nd.cells, *] using h3⟩
 ·try (exfalso;omega)
  refine aT ?_;refine lP ?_;refine bD (λ c18=>?_) (λ c18=>?_)
  ·try (exfalso;omega)
   refine aW ?_;refine bD (λ c18=>?_) (λ c18=>?_)
   ·try (exfalso;omega)
    refine K1p ?_;intro x24 h24 x32;(refine fF (λ x35=>?_);try (refine eP (λ h35=>?_)));refine K2a ?_;intro x37;(refine fF (λ x40=>?_);try (refine eP (λ h40=>?_)));refine K0g ?_;refine cE (h:=λ x49=>?_);((refine dB (i:=8) (hq:=(bG.eM (gA (sz:=14) rf rf zH (by rw[eC]) fin rfl rfl Pf rfl (by decide) gS om) vS)) (h:=λ x50=>?_);try (refine eK (λ h50=>?_))));refine K0k ?_;intro w hw h2;simp only[sR,List.nil_append] at h2;refine K1c ?_;intro h3;exact⟨⟨x50.1,x50.2,x24.1,x24.2,x35.1,x35.2,x40.1,x40.2⟩,rfl,trivial,by simpa[mO,aO,mW,pP,aQ.fr,fL,kJ,Nd.cells, *] using h3⟩
   ·try (exfalso;omega)
  ·try (exfalso;omega)
   refine lP ?_;refine bD (λ c18=>?_) (λ c18=>?_)
   ·try (exfalso;omega)
    refine aW ?_;refine bD (λ c18=>?_) (λ c18=>?_)
    ·try (exfalso;omega)
     refine K1p ?_;intro x24 h24 x32;(refine fF (λ x35=>?_);try (refine eP (λ h35=>?_)));refine K2a ?_;intro x37;(refine fF (λ x40=>?_);try (refine eP (λ h40=>?_)));refine K0g ?_;refine cE (h:=λ x49=>?_);((refine dB (i:=8) (hq:=(bG.eM (gA (sz:=14) rf rf zH (by rw[eC]) fin rfl rfl Pf rfl (by decide) gS om) vS)) (h:=λ x50=>?_);try (refine eK (λ h50=>?_))));refine K0k ?_;intro w hw h2;simp only[sR,List.nil_append] at h2;refine K1c ?_;intro h3;exact⟨⟨x50.1,x50.2,x24.1,x24.2,x35.1,x35.2,x40.1,x40.2⟩,rfl,trivial,by simpa[mO,aO,mW,pP,aQ.fr,fL,kJ,Nd.cells, *] using h3⟩
    ·try (exfalso;omega)
   ·try (exfalso;omega)
    refine dS ?_;refine Ti ?_;refine bD (λ c18=>?_) (λ c18=>?_)
    ·try (exfalso;omega)
     refine K1p ?_;intro x24 h24 x32;(refine fF (λ x35=>?_);try (refine eP (λ h35=>?_)));refine K2a ?_;intro x37;(refine fF (λ x40=>?_);try (refine eP (λ h40=>?_)));refine K0g ?_;refine cE (h:=λ x49=>?_);((refine dB (i:=8) (hq:=(bG.eM (gA (sz:=14) rf rf zH (by rw[eC]) fin rfl rfl Pf rfl (by decide) gS om) vS)) (h:=λ x50=>?_);try (refine eK (λ h50=>?_))));refine K0k ?_;intro w hw h2;simp only[sR,List.nil_append] at h2;refine K1c ?_;intro h3;exact⟨⟨x50.1,x50.2,x24.1,x24.2,x35.1,x35.2,x40.1,x40.2⟩,rfl,trivial,by simpa[mO,aO,mW,pP,aQ.fr,fL,kJ,Nd.cells, *] using h3⟩
    ·try (exfalso;omega)
     refine lP ?_;refine bD (λ c26=>?_) (λ c26=>?_)
     ·try (exfalso;omega)
      refine Km ?_;refine aD (cM (hc:=λ w hs=>mB init hs hc)) (λ x30 h30=>?_);refine vO ?_;refine eV ?_;refine J0 ?_;refine iZ (λ x32=>?_);refine J3 ?_;(refine fF (λ x35=>?_);try (refine eP (λ h35=>?_)));refine K2a ?_;intro x37;(refine fF (λ x40=>?_);try (refine eP (λ h40=>?_)));refine K0g ?_;refine cE (h:=λ x49=>?_);((refine dB (i:=8) (hq:=(bG.eM (gA (sz:=14) rf rf zH (by rw[eC]) fin rfl rfl Pf rfl (by decide) gS om) vS)) (h:=λ x50=>?_);try (refine eK (λ h50=>?_))));refine K0k ?_;intro w hw h2;simp only[sR,List.nil_append] at h2;refine K1c ?_;intro h3;exact⟨⟨x50.1,x50.2,x30.1,x30.2,x35.1,x35.2,x40.1,x40.2⟩,rfl,trivial,by simpa[mO,aO,mW,pP,aQ.fr,fL,kJ,Nd.cells, *] using h3⟩
     ·try (exfalso;omega)
      refine pE ?_;refine J0 ?_;refine iZ (λ x32=>?_);refine J3 ?_;(refine fF (λ x35=>?_);try (refine eP (λ h35=>?_)));refine K2a ?_;intro x37;(refine fF (λ x40=>?_);try (refine eP (λ h40=>?_)));refine K0g ?_;refine cE (h:=λ x49=>?_);((refine dB (i:=8) (hq:=(bG.eM (gA (sz:=14) rf rf zH (by rw[eC]) fin rfl rfl Pf rfl (by decide) gS om) vS)) (h:=λ x50=>?_);try (refine eK (λ h50=>?_))));refine K0k ?_;intro w hw h2;simp only[sR,List.nil_append] at h2;refine K1c ?_;intro h3;exact⟨⟨x50.1,x50.2,pc,cc,x35.1,x35.2,x40.1,x40.2⟩,rfl,trivial,by simpa[mO,aO,mW,pP,aQ.fr,fL,kJ,Nd.cells, *] using h3⟩
theorem nV{m c:Nat}{p:Option Addr}{v1 v2 v3:Value}(hs:SF w D [(b,.cells ⟨[.slice p m c,v1,v2,v3]⟩ 139 (0,0))] A [] [] w)(hl:m<=274877906945):Calls prog 81 #[.pointer (some ⟨b,0,none⟩)] w λ e w'=>∃q:Unit,e=.returned (.int .i64 ((m+2:Nat):Int))/\True /\
  SF w D [(b,.cells ⟨[.slice p m c,v1,v2,v3]⟩ 139 (0,0))] [] [] [] w':=by refine enter func81 ntmps81 rfl rfl hs ?_;simp only[cC];refine cU ?_;refine mP ?_;refine dV ?_;refine Es ?_;refine J1 ?_;refine aS results81 (λ w hw=>?_);exact⟨(),by rw[show(2:Int)+(m:Int)=((m+2:Nat):Int) by omega];rfl,trivial,hw.bB⟩
theorem fg(init:Int)(hs:SF w D [(b,aO L cs gen acc pn cn pc cc)] [(n.brA,aH xs),(n.prA,dF ys)] [] (mW L cs pn cn pc cc) w)(e1:n.brN=xs.length)(e2:n.prN=ys.length)(h1:xs.length<=274877906944)(h2:ys.length<=274877906944)(hl:L.length<=274877906944)(hc:cs.length<=274877906944) :
  Calls prog 29 #[.pointer (some ⟨b,0,none⟩),n.v,.int .i64 init] w λ e w'=>∃x:AX,e=.returned (.int .i64 ((L.length+3:Nat):Int))/\True /\
   SF w D [(b,aO (L++[pP n xs ys cs.length x]) (fL n.kind cs init) gen acc x.pn x.cn x.pc x.cc)] [] (pP n xs ys cs.length x).fr (mW (L++[pP n xs ys cs.length x]) (fL n.kind cs init) x.pn x.cn x.pc x.cc) w':=by
 refine enter func29 ntmps29 rfl rfl (zJ hs) ?_;simp only[cC];simp only[Nd.v,Nd.cells];refine J0 ?_;refine bJ (λ x4=>?_);refine J1 ?_;refine nJ ?_;refine aD (cF (V:=λ p:Option Addr×Option Addr=>.agg ⟨[.int .i64 n.kind,.int .i64 n.gen,.int .i64 n.main,.int .u64 n.bm,.slice p.1 n.brN xs.length,.int .u64 n.hash,.string n.key,.int .u64 n.val,.slice p.2 n.prN ys.length,.int .i64 n.prev,.int .i64 n.bS,.int .i64 n.exp,.int .i64 n.new,.int .i64 n.status]⟩) (hc:=λ w1 hw=>Xi (n:=n) ⟨e1,e2,hw.cl (.bS .head),hw.cl (.bS (.tail .head)),by omega,by omega⟩ (by omega) (by omega))) (λ x8 h8=>?_);refine J5 ?_;refine Ka6 ?_;refine lW (λ _=>?_);refine aE ?_;refine lW (λ _=>?_);refine vO ?_;refine Dj ?_;refine iE ?_;refine Ti ?_;refine bD (λ c12=>?_) (λ c12=>?_)
 ·try (exfalso;omega)
  refine Km ?_;refine aD (cM (hc:=λ w hs=>Ak init hs hc)) (λ x18 h18=>?_);refine vO ?_;refine eV ?_;refine K1f ?_;refine cE (h:=λ x41=>?_);((refine dB (i:=7) (hq:=(bG.eM (gA (sz:=14) rf rf zH (by rw[eC]) fin rfl rfl Pf rfl (by decide) gS om) vS)) (h:=λ x42=>?_);try (refine eK (λ h42=>?_))));refine K0s ?_;intro x46 h46 w hw h3;exact⟨⟨x42.1,x42.2,x18.1,x18.2,x8.1,xs.length,x8.2,ys.length⟩,rfl,trivial,by simpa[mO,aO,mW,pP,aQ.fr,fL,kJ,Nd.cells, *] using h3⟩
 ·try (exfalso;omega)
  refine nJ ?_;refine aD (c0 (V:=.bool) (hc:=λ w1 hw=>Vt ({n with main:=0,prev:=0,status:=0,brA:=x8.1,brC:=xs.length,prA:=x8.2,dF:=ys.length}:Nd) w1)) (λ x22 h22=>?_);refine J1 ?_;refine bD (λ c20=>?_) (λ c20=>?_)
  ·try (exfalso;omega)
   have k22:n.kind=3∨n.kind=5∨n.kind=6:=h22.1 c20;rcases k22 with k22|k22|k22
   all_goals (refine Km ?_;refine aD (cM (hc:=λ w hs=>Ak init hs hc)) (λ x25 h25=>?_);refine vO ?_;refine eV ?_;refine aT ?_;refine eI [(0,[]),(1,[]),(2,[]),(3,[]),(4,[]),(5,[]),(6,[4]),(7,[]),(8,[]),(9,[]),(10,[])] ?_;refine dj ?_;refine bV ?_;refine cE (h:=λ x41=>?_);((refine dB (i:=7) (hq:=(bG.eM (gA (sz:=14) rf rf zH (by rw[eC]) fin rfl rfl Pf rfl (by decide) gS om) vS)) (h:=λ x42=>?_);try (refine eK (λ h42=>?_))));refine J88 ?_;refine J2 ?_;refine aD (cM (hc:=λ w hs=>nV (m:=L.length+1) hs (by omega))) (λ x46 h46=>?_);refine J1 ?_)
   all_goals
   refine aS results29 (λ w hw=>?_);have h3:=hw.bB (H':=[(b,_)]) (F':=[(x8.1,aH xs),(x8.2,dF ys)]) (O':=[_,_]);exact⟨⟨x42.1,x42.2,x25.1,x25.2,x8.1,xs.length,x8.2,ys.length⟩,rfl,trivial,by simpa[mO,aO,mW,pP,aQ.fr,fL,kJ,Nd.cells, *] using h3⟩
  ·try (exfalso;omega)
   have k22:¬(n.kind=3∨n.kind=5∨n.kind=6):=λ k=>by rw[h22.2 k] at c20;cases c20
   obtain⟨k3,k56⟩:=not_or.1 k22;obtain⟨k5,k6⟩:=not_or.1 k56;refine iE ?_;refine Ti ?_;refine bD (λ c27=>?_) (λ c27=>?_)
   ·try (exfalso;omega)
    refine Km ?_;refine aD (cM (hc:=λ w hs=>Ak init hs hc)) (λ x33 h33=>?_);refine vO ?_;refine eV ?_;refine K1f ?_;refine cE (h:=λ x41=>?_);((refine dB (i:=7) (hq:=(bG.eM (gA (sz:=14) rf rf zH (by rw[eC]) fin rfl rfl Pf rfl (by decide) gS om) vS)) (h:=λ x42=>?_);try (refine eK (λ h42=>?_))));refine K0s ?_;intro x46 h46 w hw h3;exact⟨⟨x42.1,x42.2,x33.1,x33.2,x8.1,xs.length,x8.2,ys.length⟩,rfl,trivial,by simpa[mO,aO,mW,pP,aQ.fr,fL,kJ,Nd.cells, *] using h3⟩
   ·try (exfalso;omega)
    refine pE ?_;refine K1f ?_;refine cE (h:=λ x41=>?_);((refine dB (i:=7) (hq:=(bG.eM (gA (sz:=14) rf rf zH (by rw[eC]) fin rfl rfl Pf rfl (by decide) gS om) vS)) (h:=λ x42=>?_);try (refine eK (λ h42=>?_))));refine K0s ?_;intro x46 h46 w hw h3;exact⟨⟨x42.1,x42.2,pc,cc,x8.1,xs.length,x8.2,ys.length⟩,rfl,trivial,by simpa[mO,aO,mW,pP,aQ.fr,fL,kJ,Nd.cells, *] using h3⟩
end
end Go.Proofs.YtbajmaoegmbfgaaGreat
namespace Go.Ct
section
theorem Cl.o4{w:Go.World}{cs:List Go.Value}(h:Cl w none cs):cs=[]:=by
 cases cs with
 | nil=>rfl
 | cons v r=>exact absurd (h.ptr (by simp)) (by simp)
theorem Y6{l:List Int}(h:aH l=[]):l=[]:=by simpa[aH] using h
theorem G0{L:List aQ}{k:Nat}(h:k<2):aB (cI L) ((k+1:Nat):Int)=fG:=by rw[tC (by rw[kS];omega)];rcases(show k=0∨k=1 by omega) with rfl|rfl<;>rfl
theorem Ma{L:List aQ}{k:Nat}(h:2<=k)(h2:k<L.length+2):aB (cI L) ((k+1:Nat):Int)=L.getD (k+1-2-1) aQ.zero:=by rw[tC (by rw[kS];omega)];obtain⟨j,rfl⟩:∃j,k=j+2:=⟨k-2,by omega⟩;rw[show j+2+1-2-1=j by omega];rfl
end
end Go.Ct
namespace Go.Proofs.YtbajmaoegmbfgaaGreat
open Go.Proofs.Tryz
open Go.RowKit Go.Ct
section
variable{w:World}{D:List Nat}{b:Nat}{L:List aQ}{cs:List Int}{gen acc:Int}{pn pc:Option Addr}{cn cc:Nat}{A:Fr}
theorem Ah{l:List Int}{a:Option Addr}{c:Nat}{w:World}(ha:Cl w a (aH l))(hl:l.length<=274877906944):Calls prog 84 #[.slice a l.length c] w λ e w' =>
  ∃x:Option Addr×Nat,e=.returned (.slice x.1 l.length x.2)/\True/\SF w [] [] [] [] [⟨x.1,aH l,x.2,37,1⟩] w':=by
 refine enter func84 ntmps84 rfl rfl (SF.s1 ha) ?_;simp only[cC];refine Ka7 ?_;refine tG ?_;refine bD (λ c4=>?_) (λ c4=>?_)
 ·have e0:a=none:=by cases a with|none=>rfl|some _=>cases c4
  subst e0;obtain rfl:=Y6 ha.o4;refine cU ?_;refine aS results84 (λ w hw=>?_);exact⟨(none,0),rfl,trivial,(hw.kQ 37 1).bB⟩
 ·refine aW ?_;refine J0 ?_;refine iZ (λ x5=>?_);refine aA ?_;(refine fF (λ x7=>?_);try (refine eP (λ h7=>?_)));refine J1 ?_;refine aS results84 (λ w hw=>?_);exact⟨x7,by simp only[Nat.zero_add];rfl,trivial,by simpa using hw.bB (F':=[]) (H':=[])⟩
theorem fj(hs:SF w D [(b,aO L cs gen acc pn cn pc cc)] A [] (mW L cs pn cn pc cc) w)(r:Int)(hr:r<1)(hl:L.length<=274877906944) :
  Calls prog 36 #[.pointer (some ⟨b,0,none⟩),.int .i64 r] w λ e w'=>∃q:Option Addr×Option Addr,e=.returned ((aB (cI L) r).at_ q.1 q.2).nd.v/\True /\
  SF w D [(b,aO L cs gen acc pn cn pc cc)] [] [] (mW L cs pn cn pc cc++[⟨q.2,dF (aB (cI L) r).ys,(aB (cI L) r).ys.length,164,2⟩,⟨q.1,aH (aB (cI L) r).xs,(aB (cI L) r).xs.length,37,1⟩]) w':=by
 rw[qY (by omega)];refine enter func36 ntmps36 rfl rfl (zJ hs) ?_;simp only[cC];refine K0t ?_;intro x4;refine jS ?_;refine A1 ?_;(refine eE 7 (λ g7=>?_) (λ g7=>?_)<;>(try (exfalso;omega))<;>(refine aI ?_));(refine aI ?_);(refine aI ?_);refine Ka8 ?_;refine bD (λ c12=>?_) (λ c12=>?_)
 ·try (exfalso;omega)
  refine Kc0 ?_;refine aZ results36 (λ w hw=>?_);exact⟨(none,none),rfl,trivial,(hw.aCt 164 2 37 1).bB⟩
 ·exact nv c12
theorem ri(hs:SF w D [(b,aO L cs gen acc pn cn pc cc)] (aN L) [] (mW L cs pn cn pc cc) w)(hf:Fits L){k:Nat}(hk:(k:Int)<9223372036854775807)(hl:L.length<=274877906944) :
  Calls prog 36 #[.pointer (some ⟨b,0,none⟩),.int .i64 ((k+1:Nat):Int)] w λ e w'=>∃q:Option Addr×Option Addr,e=.returned ((aB (cI L) ((k+1:Nat):Int)).at_ q.1 q.2).nd.v/\True /\
  SF w D [(b,aO L cs gen acc pn cn pc cc)] [] [] (mW L cs pn cn pc cc++[⟨q.2,dF (aB (cI L) ((k+1:Nat):Int)).ys,(aB (cI L) ((k+1:Nat):Int)).ys.length,164,2⟩,⟨q.1,aH (aB (cI L) ((k+1:Nat):Int)).xs,(aB (cI L) ((k+1:Nat):Int)).xs.length,37,1⟩]) w':=by
 refine enter func36 ntmps36 rfl rfl (zJ hs) ?_;simp only[cC];refine K0t ?_;intro x4;refine jS ?_;refine A1 ?_;(refine Ka3 ?_);((refine Ka3 ?_));((refine aF ?_;refine aD (cM (hc:=λ w hs=>nV (m:=L.length) hs (by omega))) (λ x10 h10=>?_)));refine Ka8 ?_;refine bD (λ c12=>?_) (λ c12=>?_)
 ·try (exfalso;omega)
  refine Kc0 ?_;refine aZ results36 (λ w hw=>?_);exact⟨(none,none),by rw[qY (by rw[kS];omega)];rfl,trivial,by rw[qY (by rw[kS];omega)];exact(hw.aCt 164 2 37 1).bB⟩
 ·try (exfalso;omega)
  refine lB ?_;refine J2 ?_;refine xR ?_;refine aG ?_;refine bD (λ c15=>?_) (λ c15=>?_)
  ·try (exfalso;omega)
   refine Kc0 ?_;refine aZ results36 (λ w hw=>?_);exact⟨(none,none),by rw[G0 (by omega)];rfl,trivial,by rw[G0 (by omega)];exact(hw.aCt 164 2 37 1).bB⟩
  ·try (exfalso;omega)
   refine J83 ?_;refine aA ?_;refine aC (by exact jZ (n:=2) rf rf (by omega) (by omega)) rfl ?_;refine aC (by exact jc rf rf (by omega) (by omega)) rfl ?_;refine Qv ?_;refine aD (Tg (Hc:=λ _=>[]) (Fc:=λ _=>[]) (V:=λ p:Option Addr×Option Addr=>((L.getD (k+1-2-1) aQ.zero).at_ p.1 p.2).nd.v) (hc:=λ w1 hw=>Yv (hw.aDX hf (by omega)) (hf.at (by omega)).brS (hf.at (by omega)).prS)) (λ x26 h26=>?_);refine J5 ?_;refine aZ results36 (λ w hw=>?_);exact⟨x26,by rw[Ma (by omega) (by omega)];rfl,trivial,by rw[Ma (by omega) (by omega)];exact hw.toEnd.bB⟩
end
section
variable{w:World}{D:List Nat}{b:Nat}{L:List aQ}{cs:List Int}{gen acc:Int}{pn pc:Option Addr}{cn cc:Nat}{A:Fr}
theorem Xl(hs:SF w D [(b,aO L cs gen acc pn cn pc cc)] (aN L) [] (mW L cs pn cn pc cc) w)(hf:Fits L)(r:Int)(hr:r<=9223372036854775807)(hl:L.length<=274877906944) :
  Calls prog 36 #[.pointer (some ⟨b,0,none⟩),.int .i64 r] w λ e w'=>∃q:Option Addr×Option Addr,e=.returned (.agg ⟨((aB (cI L) r).at_ q.1 q.2).nd.cells⟩)/\True /\
  SF w D [(b,aO L cs gen acc pn cn pc cc)] [] [] (mW L cs pn cn pc cc++[⟨q.2,dF (aB (cI L) r).ys,(aB (cI L) r).ys.length,164,2⟩,⟨q.1,aH (aB (cI L) r).xs,(aB (cI L) r).xs.length,37,1⟩]) w':=by
 rcases Int.lt_or_le r 1 with h|h;·exact fj hs r h hl
 ·obtain⟨k,rfl⟩:∃k:Nat,r=((k+1:Nat):Int):=⟨(r-1).toNat,by omega⟩;exact ri hs hf (by omega) hl
theorem kj(hs:SF w D [(b,aO L cs gen acc pn cn pc cc)] (aN L) [] (mW L cs pn cn pc cc) w)(hf:Fits L)(hl:L.length<=274877906944)(hc:cs.length<=274877906944) :
  Calls prog 32 #[.pointer (some ⟨b,0,none⟩)] w λ e w'=>∃x:List aQ×(Option Addr×Nat)×(Option Addr×Nat),e=.returned (.agg ⟨[.slice x.2.1.1 x.1.length x.2.1.2,.slice x.2.2.1 cs.length x.2.2.2,.int .i64 gen]⟩) /\
   (x.1.map aQ.c=(cI L).map aQ.c/\Fits x.1) /\
  SF w D [(b,aO L cs gen acc pn cn pc cc)] [] (aN x.1) (mW L cs pn cn pc cc++[⟨x.2.1.1,iH x.1,x.2.1.2,47,14⟩,⟨x.2.2.1,aH cs,x.2.2.2,37,1⟩]) w':=by
 refine enter func32 ntmps32 rfl rfl (zJ hs) ?_;simp only[cC];refine J0 ?_;refine aJ (λ x2=>?_);refine Qa ?_;refine eR [3,5,6,7,8,9,10,11,12,13,14] (λ j:Nat×Option Addr×Nat=>[(3,.pointer (some ⟨j.1,0,none⟩))]) (λ _=>True) (λ j=>[(j.1,.cells ⟨[.slice none 0 0,.slice j.2.1 cs.length j.2.2,.int .i64 gen]⟩ 52 (0,0)),(x2,.cells ⟨[.slice none 0 0,.slice none 0 0,.int .i64 0]⟩ 52 (0,0)),(b,aO L cs gen acc pn cn pc cc)]) (λ _=>[]) (λ j=>[⟨j.2.1,aH cs,j.2.2,37,1⟩,⟨pn,iH L,cn,47,14⟩,⟨pc,aH cs,cc,37,1⟩]) (by decide) (λ _=>by exact rfl) ?_ (λ j f hx=>?_)
 ·refine gO (.one 0 [] (.one 1 [] (.one 2 [] (.one 3 [] (.one 5 [] (.one 6 [] (.one 7 [] (.one 8 [] (.two 4 [8] (.one 9 [] (.one 10 [3,8] (.one 11 [] .nil))) 0 [] (.two 10 [3,8] (.one 4 [8] (.one 9 [] (.one 11 [] .nil))) 0 [] .nil)))))))))) ?_;refine Fl ?_;refine gL (E:=[4,10]) (by decide +kernel) ((.cons ?_ (.cons ?_ .nil)));·refine nX (i:=4) (hq:=(Tg (Hc:=λ _=>[]) (Fc:=λ _=>[]) (hc:=λ w1 hw=>Ah (hw.cl fin) hc))) (h:=λ x9 h9=>?_);refine gM ?_;refine iP (h:=λ x3=>?_);refine An ?_;refine fC ((x3,x9.1,x9.2)) ?_;·trivial
  ·refine iL (i:=10) (h:=λ x3=>?_);refine bI (i:=4) (hq:=(Tg (Hc:=λ _=>[]) (Fc:=λ _=>[]) (hc:=λ w1 hw=>Ah (hw.cl fin) hc))) (h:=λ x9 h9=>?_);refine gM ?_;refine An ?_;refine fC ((x3,x9.1,x9.2)) ?_;·trivial
 refine K0a ?_;refine J2 ?_;refine aD (cM (hc:=λ w hs=>nV (m:=L.length) hs (by omega))) (λ x16 h16=>?_);refine sM (λ x17=>?_);refine vO ?_;refine jS ?_;refine aD (cM (hc:=λ w hs=>nV (m:=L.length) hs (by omega))) (λ x20 h20=>?_);refine Kd5 ?_;refine mN [4,21,22,23,24,25,26,27,28,29,30,31,32,33] (λ y:List aQ×Option Addr×Nat=>[(21,.int .i64 ((y.1.length:Nat):Int))]) (λ y=>y.1.map aQ.c=((cI L).take y.1.length).map aQ.c/\y.1.length<=L.length+2/\Fits y.1) (λ y=>[(j.1,.cells ⟨[.slice y.2.1 y.1.length y.2.2,.slice j.2.1 cs.length j.2.2,.int .i64 gen]⟩ 52 (0,0)),(x2,.cells ⟨[.slice none 0 0,.slice none 0 0,.int .i64 0]⟩ 52 (0,0)),(b,aO L cs gen acc pn cn pc cc)]) (λ y=>aN y.1) (λ y=>[⟨y.2.1,iH y.1,y.2.2,47,14⟩,⟨j.2.1,aH cs,j.2.2,37,1⟩,⟨pn,iH L,cn,47,14⟩,⟨pc,aH cs,cc,37,1⟩]) (λ y=>L.length+2-y.1.length) (([],some ⟨x17,0,none⟩,L.length+2)) (⟨rfl,Nat.zero_le _,λ _ h=>(List.not_mem_nil h).elim⟩) (λ y f hx=>?_) (hw0:=λ w hw=>hw.back);refine K0a ?_;refine Kd7 ?_;refine bD (λ c22=>?_) (λ c22=>?_)
 ·refine rT ?_;refine Ka4 ?_;refine eI [(0,[]),(1,[]),(2,[]),(3,[]),(4,[]),(5,[1]),(6,[1]),(7,[]),(8,[]),(9,[])] ?_;refine mE ?_;refine iW ?_;refine ns ?_;refine bI (i:=5) (hq:=(cMO (hc:=λ w hs=>Xl hs hf ((y.1.length+1:Nat):Int) (by omega) hl))) (h:=λ x29 h29=>?_);refine cE (h:=λ x30=>?_);((refine dB (i:=7) (hq:=(bG.eM (Ya ((aB (cI L) ((y.1.length+1:Nat):Int)).at_ x29.1 x29.2) rf rf zH rfl fin Pf rfl gS om) vS)) (h:=λ x31=>?_);try (refine eK (λ h31=>?_))));refine aY ?_;refine An ?_;refine eV ?_;refine Kc7 ?_
  refine iS ((y.1++[(aB (cI L) ((y.1.length+1:Nat):Int)).at_ x29.1 x29.2],x31.1,x31.2)) ?_ (hw1:=λ w hw=>by
   have h2:=(hw.freeze .head).freeze .head;simp only[sR] at h2;have h3:=h2.aAr (L:=y.1) (v:=(aB (cI L) ((y.1.length+1:Nat):Int)).at_ x29.1 x29.2) (F':=[]) (List.mem_cons_self ..) (List.mem_cons_of_mem _ (List.mem_cons_self ..)) (λ f hf=>List.mem_cons_of_mem _ (List.mem_cons_of_mem _ (List.mem_cons_of_mem _ hf)))
   simpa using h3) (hμ:=by simp only[List.length_append,List.length_cons,List.length_nil];omega)
  ·have hlt:y.1.length<(cI L).length:=by rw[kS];omega
   refine⟨?_,by simp only[List.length_append,List.length_cons,List.length_nil];omega,λ v hv=>?_⟩;·rw[List.map_append,hx.1,List.length_append,List.length_singleton,List.take_succ_eq_append_getElem hlt,List.map_append,tC hlt,iX,List.getElem?_eq_getElem hlt];rfl
   ·rcases List.mem_append.1 hv with hv|hv;·exact hx.2.2 v hv
    ·simp only[List.mem_singleton] at hv;subst hv;exact aQ.V4 (yK hf.all _) _ _
 ·refine K1t ?_;refine Ka9 ?_;refine aZ results32 (λ w hw=>?_);have hlen:y.1.length=L.length+2:=by omega
  refine⟨(y.1,(y.2.1,y.2.2),(j.2.1,j.2.2)),rfl,⟨by rw[hx.1,hlen,List.take_of_length_le (by rw[kS];omega)],hx.2.2⟩,?_⟩;exact(SF.toEnd hw).ret E0g bA.all (List.Sublist.refl _)
end
section
theorem aDx(n:Nd)(w:World):Calls prog 197 #[n.v] w λ e w'=>e=.returned n.own.v/\St w [] [] w':=by
 refine enter func197 ntmps197 rfl rfl (SF.s0 w) ?_;simp only[cC];refine K1q ?_;intro x1;refine aJ (λ x2=>?_);refine aG ?_;refine iE ?_;refine bM ?_;refine aJ (λ x3=>?_);refine J5 ?_;refine Cm ?_;refine aG ?_;refine cO ?_;refine Dj ?_;refine Dj ?_;refine Dj ?_;refine Dj ?_;refine Dj ?_;refine Dj ?_;refine Dj ?_;refine aT ?_;refine aT ?_;refine lP ?_;refine bD (λ c9=>?_) (λ c9=>?_);·refine K1t ?_;refine aT ?_;refine eI [(0,[]),(1,[]),(2,[]),(3,[]),(4,[]),(5,[3]),(6,[]),(7,[])] ?_;refine mE ?_;refine mE ?_;refine aY ?_;refine Ve ?_;refine An ?_;refine K1t ?_;refine Ka9 ?_;refine aZ results197 (λ w hw=>?_);exact⟨by simp only[Nd.own,beq_iff_eq, *,if_true,if_false];rfl,hw.done⟩
 ·refine lB ?_;refine lP ?_;refine bD (λ c11=>?_) (λ c11=>?_);·refine K1t ?_;refine K0h ?_;intro w hw;exact⟨by simp only[Nd.own,beq_iff_eq, *,if_true,if_false];rfl,hw.done⟩
  ·refine lB ?_;refine lP ?_;refine bD (λ c13=>?_) (λ c13=>?_);·refine K1t ?_;refine dS ?_;refine J3 ?_;refine vO ?_;refine eV ?_;refine K0h ?_;intro w hw;exact⟨by simp only[Nd.own,beq_iff_eq, *,if_true,if_false];rfl,hw.done⟩
   ·refine lB ?_;refine lP ?_;refine bD (λ c15=>?_) (λ c15=>?_);·refine K1t ?_;refine K0h ?_;intro w hw;exact⟨by simp only[Nd.own,beq_iff_eq, *,if_true,if_false];rfl,hw.done⟩
    ·refine lB ?_;refine lP ?_;refine bD (λ c17=>?_) (λ c17=>?_);·refine K1t ?_;refine K0h ?_;intro w hw;exact⟨by simp only[Nd.own,beq_iff_eq, *,if_true,if_false];rfl,hw.done⟩
     ·refine lB ?_;refine lP ?_;refine bD (λ c19=>?_) (λ c19=>?_);·refine K1t ?_;refine eI [(0,[]),(1,[]),(2,[]),(3,[]),(4,[]),(5,[]),(6,[]),(7,[3,5]),(8,[]),(9,[5]),(10,[]),(11,[])] ?_;refine mE ?_;refine mE ?_;refine mE ?_;refine aY ?_;refine Ve ?_;refine Ve ?_;refine An ?_;refine eV ?_;refine iE ?_;refine vO ?_;refine K1t ?_;refine Ka9 ?_;refine aZ results197 (λ w hw=>?_);exact⟨by simp only[Nd.own,beq_iff_eq, *,if_true,if_false];rfl,hw.done⟩
      ·refine aW ?_;refine lP ?_;refine bD (λ c21=>?_) (λ c21=>?_);·refine K1t ?_;refine iE ?_;refine vO ?_;refine K1t ?_;refine Ka9 ?_;refine aZ results197 (λ w hw=>?_);exact⟨by simp only[Nd.own,beq_iff_eq, *,if_true,if_false];rfl,hw.done⟩
       ·refine aW ?_;refine K1t ?_;refine Ka9 ?_;refine aZ results197 (λ w hw=>?_);exact⟨by simp only[Nd.own,beq_iff_eq, *,if_true,if_false];rfl,hw.done⟩
end
section
theorem aCl(b:Int)(w:World):Calls prog 238 #[.int .u64 b] w λ e w'=>e=.returned (.int .i64 (wG b))/\St w [] [] w':=by refine enter func238 ntmps238 rfl rfl (SF.s0 w) ?_;simp only[cC];refine Kb5 ?_;refine Ei ?_;refine Cf ?_;refine aA ?_;refine Cf ?_;refine Es ?_;refine Ka5 ?_;refine Ei ?_;refine Cf ?_;refine aA ?_;refine Cf ?_;refine Es ?_;refine Ka5 ?_;refine Ei ?_;refine aA ?_;refine Es ?_;refine Cf ?_;refine zQ ?_;refine Ei ?_;refine Es ?_;refine zQ ?_;refine Ei ?_;refine Es ?_;refine zQ ?_;refine Ei ?_;refine Es ?_;refine Ka5 ?_;refine gX ?_;refine Cf ?_;refine J1 ?_;refine aS results238 (λ w hw=>?_);exact⟨rfl,hw.done⟩
theorem Ng(b:Int)(w:World):Calls prog 198 #[.int .u64 b] w λ e w'=>e=.returned (.int .i64 (wG b))/\St w [] [] w':=by refine enter func198 ntmps198 rfl rfl (SF.s0 w) ?_;simp only[cC];refine Kb5 ?_;refine aP (cV (hc:=λ w1 hw=>aCl b w1)) (λ x4=>?_);refine J1 ?_;refine aS results198 (λ w hw=>?_);exact⟨rfl,hw.done⟩
theorem Li{n:Nd}{xs:List Int}{ys:List Pr}{w:World}(hr:sG w n xs ys) :
  Calls prog 158 #[n.v] w λ e w'=>∃r:Bool,e=.returned (.bool r)/\(r=true↔cK n xs ys)/\St w [] [] w':=by
 have e1:=hr.brN;have e2:=hr.prN;refine enter func158 ntmps158 rfl rfl (SF.s0 w) ?_;simp only[cC]
 refine K1q ?_;intro x1;refine jG ?_;refine aT ?_;refine eI [(0,[]),(1,[]),(2,[0]),(3,[]),(4,[])] ?_;refine bV ?_;refine bV ?_;refine dB (i:=2) (hq:=(cV (hc:=λ w1 hw=>aDx n w1))) (h:=λ x5=>?_);refine bI (i:=3) (hq:=(c0 (V:=.bool) (hc:=λ w1 hw=>aCk (hr.gB hw.st) (hr.gB hw.st).own))) (h:=λ x6 h6=>?_);refine Yc ?_;refine eN ?_;refine bD (λ c7=>?_) (λ c7=>?_);·refine cU ?_;refine K2m ?_;intro w hw;refine⟨_,rfl,?_,hw.done⟩;(simp_all[cK];done)
 ·refine lB ?_;refine iE ?_;refine A1 ?_;(refine eE 11 (λ g11=>?_) (λ g11=>?_)<;>refine Ka1 ?_);all_goals (refine J89 ?_;refine aA ?_)
  all_goals (first|refine aI ?_|(refine eE 16 (λ g16=>?_) (λ g16=>?_)<;>refine Ka1 ?_))
  all_goals (refine J89 ?_;refine aG ?_)
  all_goals
  refine bD (λ c20=>?_) (λ c20=>?_)
  ·all_goals refine cU ?_
   all_goals refine K2m ?_;intro w hw;refine⟨_,rfl,?_,hw.done⟩;(simp_all[cK];omega)
  ·try exact nv c20
   all_goals (refine lB ?_;refine iE ?_;refine aG ?_;refine cO ?_;refine Dj ?_;refine Dj ?_;refine Dj ?_;refine Dj ?_;refine cO ?_;refine Dj ?_;refine Dj ?_;refine Dj ?_;refine aT ?_;refine aT ?_;refine lP ?_)
   all_goals
    refine bD (λ c23=>?_) (λ c23=>?_);·refine K1t ?_;refine aT ?_;refine cU ?_;refine K2m ?_;intro w hw;refine⟨_,rfl,?_,hw.done⟩;(simp_all[cK];done)
    ·refine lB ?_;refine lP ?_;refine bD (λ c25=>?_) (λ c25=>?_);·refine K1t ?_;refine Cm ?_;refine lQ ?_;refine J1 ?_;refine K2m ?_;intro w hw;refine⟨_,rfl,?_,hw.done⟩;(simp_all[cK];done)
     ·refine lB ?_;refine lP ?_;refine bD (λ c27=>?_) (λ c27=>?_)
      ·refine K1t ?_;refine aT ?_;refine aT ?_;refine eI [(0,[]),(1,[]),(2,[]),(3,[]),(4,[]),(5,[1]),(6,[]),(7,[]),(8,[]),(9,[]),(10,[]),(11,[]),(12,[])] ?_;refine mE ?_;refine qB ?_;refine mE ?_;refine dB (i:=5) (hq:=(cV (hc:=λ w1 hw=>Ng n.bm w1))) (h:=λ x47=>?_);refine pI ?_;refine aV ?_;(refine rcs 49 (λ g49=>?_) (λ g49=>?_)<;>(first|refine iF ?_|(refine aY ?_)));all_goals ((first|refine iF ?_|(refine bV ?_));(first|refine iF ?_|(refine bI (i:=10) (hq:=(c0 (V:=.bool) (hc:=λ w1 hw=>by rw[e1];exact Uf (hr.br.gB hw.st) hr.brS))) (h:=λ x52 h52=>?_)));refine lZ ?_;refine J7 ?_)
       all_goals
       refine K2m ?_;intro w hw;refine⟨_,rfl,?_,hw.done⟩;(simp_all[cK];done)
      ·refine lB ?_;refine lP ?_;refine bD (λ c29=>?_) (λ c29=>?_);·refine Xz ?_;refine Cm ?_;refine kW ?_;refine xR ?_;refine J1 ?_;refine K2m ?_;intro w hw;refine⟨_,rfl,?_,hw.done⟩;(simp_all[cK];omega)
       ·refine lB ?_;refine lP ?_;refine bD (λ c31=>?_) (λ c31=>?_);·refine K1t ?_;refine Cm ?_;refine kW ?_;refine xR ?_;refine J1 ?_;refine K2m ?_;intro w hw;refine⟨_,rfl,?_,hw.done⟩;(simp_all[cK];omega)
        ·refine lB ?_;refine lP ?_;refine bD (λ c33=>?_) (λ c33=>?_)
         ·refine K1t ?_;refine Cm ?_;refine dV ?_;refine lQ ?_;refine aA ?_;(refine eE 62 (λ g62=>?_) (λ g62=>?_)<;>refine Ka1 ?_);all_goals (refine Ka2 ?_;(first|refine aI ?_|(refine aF ?_;refine aD (c0 (V:=.bool) (hc:=λ w1 hw=>by rw[e2];exact Ky (hr.pr.gB hw.st) hr.prS)) (λ x65 h65=>?_)));refine Kc1 ?_)
          all_goals (first|refine aI ?_|(refine eE 67 (λ g67=>?_) (λ g67=>?_)<;>refine Ka1 ?_))
          all_goals (refine Ka2 ?_;(first|refine aI ?_|(refine aF ?_;refine aD (c0 (V:=.bool) (hc:=λ w1 hw=>by rw[e2];exact Qe (hr.pr.gB hw.st) hr.prS)) (λ x70 h70=>?_)));refine Kb9 ?_)
          all_goals
          refine K2m ?_;intro w hw;refine⟨_,rfl,?_,hw.done⟩;first|(simp_all[cK];done)|(simp_all[cK];omega)
         ·refine lB ?_;refine lP ?_;refine bD (λ c35=>?_) (λ c35=>?_)
          ·refine K1t ?_;refine iE ?_;refine A1 ?_;(refine eE 75 (λ g75=>?_) (λ g75=>?_)<;>refine Ka1 ?_);all_goals (refine J89 ?_;refine aG ?_)
           all_goals
           refine bD (λ c79=>?_) (λ c79=>?_)
           ·all_goals refine cU ?_
            all_goals refine K2m ?_;intro w hw;refine⟨_,rfl,?_,hw.done⟩;(simp_all[cK];omega)
           ·try exact nv c79
            all_goals (refine pE ?_;refine Cm ?_;refine lQ ?_;refine J1 ?_)
            all_goals refine K2m ?_;intro w hw;refine⟨_,rfl,?_,hw.done⟩;(simp_all[cK];done)
          ·refine aW ?_;refine lP ?_;refine bD (λ c37=>?_) (λ c37=>?_);·refine K1t ?_;refine Cm ?_;refine lQ ?_;refine J1 ?_;refine K2m ?_;intro w hw;refine⟨_,rfl,?_,hw.done⟩;(simp_all[cK];done)
           ·refine aW ?_;refine K2q ?_;refine K2m ?_;intro w hw;refine⟨_,rfl,?_,hw.done⟩;(simp_all[cK];done)
end
end Go.Proofs.YtbajmaoegmbfgaaGreat
namespace Go.Ct
section
def gK(n:Nd):Option Int:=if n.kind=2 then some n.main else if n.kind=3∨n.kind=5∨n.kind=6 then some n.prev else if n.kind=8 then some n.status else none
def eW(u:Option (List Bool))(n:Nd):Option (List Bool) :=
 match u with
 | none=>none
 | some u=>match gK n with
  | none=>some u
  | some c=>if 1<=c/\c<=u.length/\u.getD (c-1).toNat false=false then some (u.set (c-1).toNat true) else none
def marks(m:Nat)(L:List aQ):Option (List Bool):=L.foldl (λ u v=>eW u v.nd) (some (List.replicate m false))
variable{m k:Nat}
theorem oD{L:List aQ}(h:k<L.length):marks m (L.take (k+1))=eW (marks m (L.take k)) (L.getD k aQ.zero).nd:=by rw[marks,List.take_succ_eq_append_getElem h,List.foldl_append,iX,List.getElem?_eq_getElem h];rfl
theorem Gq{L:List aQ}(h:marks m (L.take k)=none):marks m L=none:=by
 have e:L=L.take k++L.drop k:=(List.take_append_drop k L).symm;rw[e,marks,List.foldl_append];rw[marks] at h;rw[h];generalize L.drop k=l;induction l with
 | nil=>rfl
 | cons v l ih=>exact ih
theorem C5:∀{L:List aQ} {u:List Bool},marks m L=some u->u.length=m:=by
 intro L;have key:∀(l:List aQ) (u0:Option (List Bool)),(∀u,u0=some u->u.length=m)->∀u,l.foldl (λ u v=>eW u v.nd) u0=some u->u.length=m:=by
  intro l;induction l with
  | nil=>intro u0 h u hu;exact h u hu
  | cons v l ih=>
   intro u0 h u hu;refine ih (eW u0 v.nd) (λ u1 h1=>?_) u hu;cases u0 with
   | none=>simp[eW] at h1
   | some u2=>
    have:=h u2 rfl;simp only[eW] at h1;cases hc:gK v.nd with
    | none=>rw[hc] at h1;simp only[Option.some.injEq] at h1;rw[<- h1];exact this
    | some c=>
     rw[hc] at h1;simp only at h1;split at h1;·simp only[Option.some.injEq] at h1;rw[<- h1,List.length_set];exact this
     ·cases h1
 intro u hu;exact key L _ (λ u h=>by simp only[Option.some.injEq] at h;rw[<- h];simp) u hu
def Fs(r:Int)(n:Nat):Prop:=0<=r/\r<=(n:Int)
instance (r:Int) (n:Nat):Decidable (Fs r n):=inferInstanceAs (Decidable (0<=r/\r<=(n:Int)))
theorem aBv{r:Int}{n:Nat}(h:0<=r):decide (Fs r n)=decide (r<=(n:Int)):=by
 by_cases h2:r<=(n:Int);·rw[decide_eq_true h2,decide_eq_true ⟨h,h2⟩]
 ·rw[decide_eq_false h2,decide_eq_false λ h3=>h2 h3.2]
def Uc(n:Nd)(xs:List Int)(N:Nat):Prop:=(∀i,i<xs.length->Fs (xs.getD i 0) N)/\Fs n.bS N/\Fs n.exp N/\Fs n.new N
def nK(gen:Int)(N:Nat)(v:aQ):Prop:=cK v.nd v.xs v.ys/\v.nd.gen<=gen/\Uc v.nd v.xs N
structure fS(L:List aQ)(cs:List Int)(gen:Int):Prop where
 two:2<=L.length
 gen0:0<=gen
 m0:(L.getD 0 aQ.zero).nd.kind=1
 m1:(L.getD 1 aQ.zero).nd.kind=1
 cells:∀i,i<cs.length->Fs (cs.getD i 0) L.length
 nodes:∀i,i<L.length->nK gen L.length (L.getD i aQ.zero)
 marks:marks cs.length L≠none
end
end Go.Ct
namespace Go.Proofs.YtbajmaoegmbfgaaGreat
open Go.Proofs.Tryz
open Go.RowKit Go.Ct
section
theorem xF(r:Int)(n:Nat)(w:World):Calls prog 157 #[.int .i64 r,.int .i64 ((n:Nat):Int)] w λ e w'=>e=.returned (.bool (decide (Fs r n)))/\St w [] [] w':=by
 refine enter func157 ntmps157 rfl rfl (SF.s0 w) ?_;simp only[cC];refine Kb5 ?_;refine lQ ?_;refine aA ?_;(refine eE 7 (λ g7=>?_) (λ g7=>?_)<;>refine Ka0 ?_);all_goals (refine Ka0 ?_;(first|refine aI ?_|(refine aF ?_;refine xR ?_));refine Kb9 ?_)
 all_goals
 refine aS results157 (λ w hw=>?_);refine⟨?_,hw.done⟩;first|(rw[decide_eq_false (show ¬Fs r n from λ h=>by have:=h.1;have:=h.2;omega)];rfl)|(rw[aBv (by omega)];rfl)
theorem Ml{n:Nd}{xs:List Int}{N:Nat}{w:World}(e1:n.brN=xs.length)(ha:Cl w n.brA (aH xs))(hx:xs.length<4611686018427387904) :
  Calls prog 159 #[n.v,.int .i64 ((N:Nat):Int)] w λ e w'=>∃r:Bool,e=.returned (.bool r)/\(r=true↔Uc n xs N)/\St w [] [] w':=by
 refine enter func159 ntmps159 rfl rfl (SF.s1 ha) ?_;simp only[cC];simp only[Nd.v,Nd.cells,e1];refine J0 ?_;refine bJ (λ x2=>?_);refine jG ?_;refine iE ?_;refine dV ?_;refine Kd5 ?_;refine mN [4,6,10,11,12,13,14,15,16,17,18] (λ k=>[(10,.int .i64 ((k:Nat):Int))]) (λ k=>k<=xs.length/\∀i,i<k->Fs (xs.getD i 0) N) (λ k=>_) (λ _=>_) (λ _=>_) (λ k=>xs.length-k) (0) (⟨Nat.zero_le _,λ i hi=>absurd hi (Nat.not_lt_zero i)⟩) (λ k f hx=>?_);refine K0a ?_;refine Kd7 ?_;refine bD (λ c11=>?_) (λ c11=>?_)
 ·refine rT ?_;refine J0 ?_;refine Qv ?_;refine zQ ?_;refine aP (cV (hc:=λ w1 hw=>xF _ N w1)) (λ x16=>?_);refine oG ?_;refine bD (λ c17=>?_) (λ c17=>?_);·refine cU ?_;refine aS results159 (λ w hw=>?_);exact⟨false,rfl,⟨(λ h=>nomatch h),λ h=>absurd (h.1 k (by omega)) (by assumption)⟩,hw.done⟩
  ·refine pE ?_;refine Kc7 ?_;refine iS (k+1) ?_;·exact⟨by omega,λ i hi=>by rcases Nat.lt_succ_iff_lt_or_eq.1 hi with h|rfl;exact hx.2 i h;assumption⟩
 ·refine K1t ?_;refine Kc8 ?_;refine aP (cV (hc:=λ w1 hw=>xF _ N w1)) (λ x22=>?_);refine aA ?_;(refine eE 23 (λ g23=>?_) (λ g23=>?_)<;>refine Ka1 ?_);all_goals (refine Z6 ?_;(first|refine aI ?_|(refine aF ?_;refine aP (cV (hc:=λ w1 hw=>xF _ N w1)) (λ x27=>?_)));refine Kc1 ?_)
  all_goals (first|refine aI ?_|(refine eE 29 (λ g29=>?_) (λ g29=>?_)<;>refine Ka1 ?_))
  all_goals (refine Z6 ?_;(first|refine aI ?_|(refine aF ?_;refine aP (cV (hc:=λ w1 hw=>xF _ N w1)) (λ x33=>?_)));refine Kb9 ?_)
  all_goals
  refine aS results159 (λ w hw=>?_);have hall:∀i,i<xs.length->Fs (xs.getD i 0) N:=λ i hi=>hx.2 i (by omega);first|exact⟨_,rfl,by simp_all[Uc],hw.done⟩
theorem jl(n:Nd)(w:World):Calls prog 160 #[n.v] w λ e w'=>e=.returned (.tuple #[.int .i64 ((gK n).getD 0),.bool (gK n).isSome])/\St w [] [] w':=by
 refine enter func160 ntmps160 rfl rfl (SF.s0 w) ?_;simp only[cC];simp only[Nd.v,Nd.cells];refine K1q ?_;intro x1;refine J8 ?_;refine Dj ?_;refine iE ?_;refine Ti ?_;refine bD (λ c4=>?_) (λ c4=>?_);·refine iE ?_;refine J8 ?_;refine aZ results160 (λ w hw=>?_);refine⟨?_,hw.done⟩;(rw[show gK n=some n.main by simp[gK,c4]];rfl)
 ·refine nJ ?_;refine aD (c0 (V:=.bool) (hc:=λ w1 hw=>Vt n w1)) (λ x12 h12=>?_);refine J1 ?_;refine bD (λ c10=>?_) (λ c10=>?_);·have k22:n.kind=3∨n.kind=5∨n.kind=6:=h12.1 c10;refine iE ?_;refine J8 ?_;refine aZ results160 (λ w hw=>?_);refine⟨?_,hw.done⟩;(rw[show gK n=some n.prev by simp only[gK];rw[if_neg c4,if_pos k22]];rfl)
  ·have k22:¬(n.kind=3∨n.kind=5∨n.kind=6):=λ k=>by rw[h12.2 k] at c10;cases c10
   refine iE ?_;refine Ti ?_;refine bD (λ c15=>?_) (λ c15=>?_);·refine iE ?_;refine J8 ?_;refine aZ results160 (λ w hw=>?_);refine⟨?_,hw.done⟩;(rw[show gK n=some n.status by simp only[gK];rw[if_neg c4,if_neg k22,if_pos c15]];rfl)
   ·refine pE ?_;refine Hu ?_;refine aZ results160 (λ w hw=>?_);refine⟨?_,hw.done⟩;(rw[show gK n=none by simp only[gK];rw[if_neg c4,if_neg k22,if_neg c15]];rfl)
end
end Go.Proofs.YtbajmaoegmbfgaaGreat
