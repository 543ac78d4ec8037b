/- Merged. -/
import Derived.Test.YtbajmaoegmbfgaaGreatGJoin
set_option linter.unusedSimpArgs false
set_option linter.unusedVariables false
namespace Go.Proofs.YtbajmaoegmbfgaaGreat
open Go.Proofs.Tryz
open Go.RowKit Go.Ct
section
variable{a b:Nd}{x1 x2:List Int}{y1 y2:List Pr}{w:World}
theorem vr(ha:sE w a x1 y1)(hb:sE w b x2 y2) :
  Calls prog 113 #[a.v,b.v] w λ e w'=>∃r:Bool,e=.returned (.bool r)/\(r=true↔tG a b x1 x2 y1 y2)/\St w [] [] w':=by
 have e1:=ha.brN;have e2:=hb.brN;have e3:=ha.prN;have e4:=hb.prN;refine enter func113 ntmps113 rfl rfl (SF.s0 w) ?_;simp only[cC]
 refine K1k ?_;intro x2;refine bL (λ x3=>?_);refine jG ?_;refine iB ?_;refine J3 ?_;refine mU ?_;refine aA ?_;(refine eF 10 (λ g10=>?_) (λ g10=>?_)<;>refine Ka1 ?_);all_goals (refine Co ?_;refine S4 ?_;refine aA ?_)
 all_goals (first|refine aI ?_|(refine eF 17 (λ g17=>?_) (λ g17=>?_)<;>refine Ka1 ?_))
 all_goals (refine Co ?_;refine S4 ?_;refine aA ?_)
 all_goals (first|refine aI ?_|(refine eF 24 (λ g24=>?_) (λ g24=>?_)<;>refine Ka1 ?_))
 all_goals (refine Co ?_;refine S4 ?_;refine aA ?_)
 all_goals (first|refine aI ?_|(refine eF 31 (λ g31=>?_) (λ g31=>?_)<;>refine Ka1 ?_))
 all_goals (refine Co ?_;refine S4 ?_;refine aA ?_)
 all_goals (first|refine aI ?_|(refine eF 38 (λ g38=>?_) (λ g38=>?_)<;>refine Ka1 ?_))
 all_goals (refine Co ?_;(first|refine aI ?_|(refine aF ?_;refine z6 ?_));refine Kb9 ?_)
 all_goals (first|refine aI ?_|(refine eF 45 (λ g45=>?_) (λ g45=>?_)<;>refine Ka1 ?_))
 all_goals (refine Co ?_;refine S4 ?_;refine aG ?_)
 all_goals
 refine bD (λ c51=>?_) (λ c51=>?_)
 ·all_goals refine cX ?_
  all_goals refine aS results113 (λ w hw=>?_);exact⟨_,rfl,by simp_all[tG],hw.done⟩
 ·try exact nv c51
  all_goals (refine aW ?_;refine iB ?_;refine J3 ?_;refine aN (cV (hc:=λ w1 hw=>by simp only[e1,e2];exact aB8 (ha.br.fU hw.st) (hb.br.fU hw.st) ha.brS)) (λ x56=>?_);refine aA ?_)
  all_goals ((refine eF 57 (λ g57=>?_) (λ g57=>?_)<;>refine Ka1 ?_))
  all_goals (refine Co ?_;(first|refine aI ?_|(refine aF ?_;refine aN (cV (hc:=λ w1 hw=>by simp only[e3,e4];exact aDg (ha.pr.fU hw.st) (hb.pr.fU hw.st) ha.prS)) (λ x62=>?_)));refine Kb9 ?_)
  all_goals (first|refine aI ?_|(refine eF 64 (λ g64=>?_) (λ g64=>?_)<;>refine Ka1 ?_))
  all_goals (refine Kd0 ?_)
  all_goals (first|refine aI ?_|(refine eF 71 (λ g71=>?_) (λ g71=>?_)<;>refine Ka1 ?_))
  all_goals (refine Kd0 ?_)
  all_goals (first|refine aI ?_|(refine eF 78 (λ g78=>?_) (λ g78=>?_)<;>refine Ka1 ?_))
  all_goals (refine Kd0 ?_)
  all_goals (first|refine aI ?_|(refine eF 85 (λ g85=>?_) (λ g85=>?_)<;>refine Ka1 ?_))
  all_goals (refine Kd0 ?_)
  all_goals (first|refine aI ?_|(refine eF 92 (λ g92=>?_) (λ g92=>?_)<;>refine Ka1 ?_))
  all_goals (refine Co ?_;refine xF ?_;refine J1 ?_)
  all_goals refine aS results113 (λ w hw=>?_);exact⟨_,rfl,by simp_all[tG],hw.done⟩
theorem aBf(ha:sE w a x1 y1)(hb:sE w b x2 y2) :
  Calls prog 196 #[a.v,b.v] w λ e w'=>∃r:Bool,e=.returned (.bool r)/\(r=true↔tG a b x1 x2 y1 y2)/\St w [] [] w':=by
 have e1:=ha.brN;have e2:=hb.brN;have e3:=ha.prN;have e4:=hb.prN;refine enter func196 ntmps196 rfl rfl (SF.s0 w) ?_;simp only[cC]
 refine K1k ?_;intro x2;refine bL (λ x3=>?_);refine jG ?_;refine Y5 (by dsimp only[List.append]) ?_;refine J3 ?_;refine J3 ?_;refine mC ?_;refine aA ?_;(refine eF 10 (λ g10=>?_) (λ g10=>?_)<;>refine Ka1 ?_);all_goals (refine Kd0 ?_)
 all_goals (first|refine aI ?_|(refine eF 17 (λ g17=>?_) (λ g17=>?_)<;>refine Ka1 ?_))
 all_goals (refine Kd0 ?_)
 all_goals (first|refine aI ?_|(refine eF 24 (λ g24=>?_) (λ g24=>?_)<;>refine Ka1 ?_))
 all_goals (refine Kd0 ?_)
 all_goals (first|refine aI ?_|(refine eF 31 (λ g31=>?_) (λ g31=>?_)<;>refine Ka1 ?_))
 all_goals (refine Co ?_;(first|refine aI ?_|(refine aF ?_;refine aN (cV (hc:=λ w1 hw=>by simp only[e1,e2];exact v7 (ha.br.fU hw.st) (hb.br.fU hw.st) ha.brS)) (λ x36=>?_)));refine Kb9 ?_)
 all_goals (first|refine aI ?_|(refine eF 38 (λ g38=>?_) (λ g38=>?_)<;>refine Ka1 ?_))
 all_goals (refine Kd0 ?_)
 all_goals (first|refine aI ?_|(refine eF 45 (λ g45=>?_) (λ g45=>?_)<;>refine Ka1 ?_))
 all_goals (refine Co ?_;(first|refine aI ?_|(refine aF ?_;refine aAl ?_));refine Kb9 ?_)
 all_goals (first|refine aI ?_|(refine eF 52 (λ g52=>?_) (λ g52=>?_)<;>refine Ka1 ?_))
 all_goals (refine Kd0 ?_)
 all_goals (first|refine aI ?_|(refine eF 59 (λ g59=>?_) (λ g59=>?_)<;>refine Ka1 ?_))
 all_goals (refine Co ?_;(first|refine aI ?_|(refine aF ?_;refine aN (cV (hc:=λ w1 hw=>by simp only[e3,e4];exact aAW (ha.pr.fU hw.st) (hb.pr.fU hw.st) ha.prS)) (λ x64=>?_)));refine Kb9 ?_)
 all_goals (first|refine aI ?_|(refine eF 66 (λ g66=>?_) (λ g66=>?_)<;>refine Ka1 ?_))
 all_goals (refine Kd0 ?_)
 all_goals (first|refine aI ?_|(refine eF 73 (λ g73=>?_) (λ g73=>?_)<;>refine Ka1 ?_))
 all_goals (refine Kd0 ?_)
 all_goals (first|refine aI ?_|(refine eF 80 (λ g80=>?_) (λ g80=>?_)<;>refine Ka1 ?_))
 all_goals (refine Kd0 ?_)
 all_goals (first|refine aI ?_|(refine eF 87 (λ g87=>?_) (λ g87=>?_)<;>refine Ka1 ?_))
 all_goals (refine Kd0 ?_)
 all_goals (first|refine aI ?_|(refine eF 94 (λ g94=>?_) (λ g94=>?_)<;>refine Ka1 ?_))
 all_goals (refine Co ?_;refine xF ?_;refine J1 ?_)
 all_goals
 refine aS results196 (λ w hw=>?_);exact⟨_,rfl,by simp_all[tG],hw.done⟩
theorem Vi(a:Nd)(w:World):Calls prog 80 #[a.v] w λ e w'=>∃r:Bool,e=.returned (.bool r)/\(r=true↔(a.kind=3∨a.kind=5∨a.kind=6))/\St w [] [] w':=by
 refine enter func80 ntmps80 rfl rfl (SF.s0 w) ?_;simp only[cC];refine J0 ?_;refine bL (λ x1=>?_);refine jG ?_;refine iB ?_;refine aG ?_;refine cR ?_;refine aV ?_;refine lN ?_;refine bD (λ c5=>?_) (λ c5=>?_)
 ·refine aW ?_;refine bD (λ c5=>?_) (λ c5=>?_);·refine cX ?_;refine aS results80 (λ w hw=>?_);exact⟨_,rfl,by simp_all,hw.done⟩
  ·refine Ka9 ?_;refine aS results80 (λ w hw=>?_);exact⟨_,rfl,by simp_all,hw.done⟩
 ·refine lN ?_;refine bD (λ c5=>?_) (λ c5=>?_)
  ·refine aW ?_;refine bD (λ c5=>?_) (λ c5=>?_);·refine cX ?_;refine aS results80 (λ w hw=>?_);exact⟨_,rfl,by simp_all,hw.done⟩
   ·refine Ka9 ?_;refine aS results80 (λ w hw=>?_);exact⟨_,rfl,by simp_all,hw.done⟩
  ·refine dU ?_;refine S7 ?_;refine bD (λ c5=>?_) (λ c5=>?_);·refine cX ?_;refine aS results80 (λ w hw=>?_);exact⟨_,rfl,by simp_all,hw.done⟩
   ·refine Ka9 ?_;refine aS results80 (λ w hw=>?_);exact⟨_,rfl,by simp_all,hw.done⟩
theorem yG(a:Nd)(w:World):Calls prog 41 #[a.v] w λ e w'=>∃r:Bool,e=.returned (.bool r)/\(r=true↔(a.kind=3∨a.kind=5∨a.kind=6))/\St w [] [] w':=by
 refine enter func41 ntmps41 rfl rfl (SF.s0 w) ?_;simp only[cC];refine K1q ?_;intro x1;(refine eF 6 (λ g6=>?_) (λ g6=>?_)<;>refine Ka1 ?_);all_goals (refine J78 ?_;refine aA ?_)
 all_goals (first|refine aI ?_|(refine eF 11 (λ g11=>?_) (λ g11=>?_)<;>refine Ka1 ?_))
 all_goals (refine J78 ?_;refine J1 ?_)
 all_goals
 refine aS results41 (λ w hw=>?_);exact⟨_,rfl,by simp_all,hw.done⟩
end
section
variable{a:Option Addr}{ca:Nat}{w:World}{l:List Pr}
theorem Uh{xs:List Int}(ha:Cl w a (aH xs))(hx:xs.length<4611686018427387904) :
  Calls prog 199 #[.slice a xs.length ca] w λ e w'=>∃r:Bool,e=.returned (.bool r)/\(r=true↔Pos xs)/\St w [] [] w':=by
 refine enter func199 ntmps199 rfl rfl (SF.s1 ha) ?_;simp only[cC];refine Ka6 ?_;refine K1p ?_;refine gK [2,4,7,8,9,10,11,12,13] (λ k=>[(7,.int .i64 ((k:Nat):Int))]) (λ k=>k<=xs.length/\∀i,i<k->1<=xs.getD i 0) (λ k=>xs.length-k) (0) (⟨Nat.zero_le _,λ i hi=>absurd hi (Nat.not_lt_zero i)⟩) ?_ (λ k f hx=>?_);·repeat (first|exact bF _|refine bB (by exact rfl) ?_)
 refine K0a ?_;refine K1b ?_;refine bD (λ c8=>?_) (λ c8=>?_)
 ·refine sG ?_;refine J0 ?_;refine Pz ?_;refine Ka4 ?_;refine zR ?_;refine bD (λ c12=>?_) (λ c12=>?_);·refine cX ?_;refine aS results199 (λ w hw=>?_);exact⟨_,rfl,by simp only[Bool.false_eq_true,false_iff];intro h;have:=h k (by omega);omega,hw.done⟩
  ·refine pP ?_;refine mq ?_;refine Jm ?_;refine eN (k+1) ?_ ?_ ?_;·omega
   ·repeat' (first|exact bF _|refine bB ?_ ?_)
    exact rfl
   ·exact⟨by omega,λ i hi=>by rcases Nat.lt_succ_iff_lt_or_eq.1 hi with h|rfl;exact hx.2 i h;omega⟩
 ·refine K1u ?_;refine aS results199 (λ w hw=>?_);exact⟨_,rfl,by simp only[true_iff];intro i hi;exact hx.2 i (by omega),hw.done⟩
theorem Pg(ha:Cl w a (dI l))(hx:l.length<4611686018427387904) :
  Calls prog 200 #[.slice a l.length ca] w λ e w'=>∃r:Bool,e=.returned (.bool r)/\(r=true↔Ha l)/\St w [] [] w':=by
 refine enter func200 ntmps200 rfl rfl (SF.s1 ha) ?_;simp only[cC];refine Ka6 ?_;refine K1p ?_;refine gK [2,4,7,8,9,10,11,12,13,14,15] (λ k=>[(7,.int .i64 ((k:Nat):Int))]) (λ k=>k<=l.length/\∀i,i<k->(l.getD i (⟨#[]⟩,0)).1.size<=64) (λ k=>l.length-k) (0) (⟨Nat.zero_le _,λ i hi=>absurd hi (Nat.not_lt_zero i)⟩) ?_ (λ k f hx=>?_);·repeat (first|exact bF _|refine bB (by exact rfl) ?_)
 refine K0a ?_;refine K1b ?_;refine bD (λ c8=>?_) (λ c8=>?_)
 ·refine sG ?_;refine J0 ?_;refine Pz ?_;refine aJ (λ x4=>?_);refine J5 ?_;refine iB ?_;refine kT ?_;refine En ?_;refine aG ?_;refine bD (λ c14=>?_) (λ c14=>?_);·refine cX ?_;refine aS results200 (λ w hw=>?_);exact⟨_,rfl,by simp only[Bool.false_eq_true,false_iff];intro h;have:=h k (by omega);omega,hw.done⟩
  ·refine pP ?_;refine mq ?_;refine Jm ?_;refine eN (k+1) ?_ ?_ ?_;·omega
   ·repeat' (first|exact bF _|refine bB ?_ ?_)
    exact rfl
   ·exact⟨by omega,λ i hi=>by rcases Nat.lt_succ_iff_lt_or_eq.1 hi with h|rfl;exact hx.2 i h;omega⟩
 ·refine K1u ?_;refine aS results200 (λ w hw=>?_);exact⟨_,rfl,by simp only[true_iff];intro i hi;exact hx.2 i (by omega),hw.done⟩
theorem dw(ha:Cl w a (dI l))(hx:l.length<4611686018427387904) :
  Calls prog 171 #[.slice a l.length ca] w λ e w'=>∃r:Bool,e=.returned (.bool r)/\(r=true↔Ha l)/\St w [] [] w':=by
 refine enter func171 ntmps171 rfl rfl (SF.s1 ha) ?_;simp only[cC];refine Fh ?_;refine E9 ?_;refine gK [2,3,4,5,6,7,8,9,10,11,12,13,14,15,16] (λ k=>[(3,.int .i64 ((k:Nat):Int))]) (λ k=>k<=l.length/\∀i,i<k->(l.getD i (⟨#[]⟩,0)).1.size<=64) (λ k=>l.length-k) (0) (⟨Nat.zero_le _,λ i hi=>absurd hi (Nat.not_lt_zero i)⟩) ?_ (λ k f hx=>?_);·repeat (first|exact bF _|refine bB (by exact rfl) ?_)
 refine K0a ?_;refine K1i ?_;refine bD (λ c7=>?_) (λ c7=>?_)
 ·refine sG ?_;refine iZ ?_;refine fL ?_;refine J3 ?_;refine kT ?_;refine En ?_;refine aG ?_;refine bD (λ c16=>?_) (λ c16=>?_);·refine cX ?_;refine aS results171 (λ w hw=>?_);exact⟨_,rfl,by simp only[Bool.false_eq_true,false_iff];intro h;have:=h k (by omega);omega,hw.done⟩
  ·refine Kc5 ?_;refine eN (k+1) ?_ ?_ ?_;·omega
   ·repeat' (first|exact bF _|refine bB ?_ ?_)
    exact rfl
   ·exact⟨by omega,λ i hi=>by rcases Nat.lt_succ_iff_lt_or_eq.1 hi with h|rfl;exact hx.2 i h;omega⟩
 ·refine K1u ?_;refine aS results171 (λ w hw=>?_);exact⟨_,rfl,by simp only[true_iff];intro i hi;exact hx.2 i (by omega),hw.done⟩
theorem K5(ha:Cl w a (dI l))(hx:l.length<4611686018427387904) :
  Calls prog 193 #[.slice a l.length ca] w λ e w'=>∃r:Bool,e=.returned (.bool r)/\(r=true↔z7 l)/\St w [] [] w':=by
 refine enter func193 ntmps193 rfl rfl (SF.s1 ha) ?_;simp only[cC];refine Fh ?_;refine E9 ?_;refine gK [2,3,4,5,6,7,8,9,10,11,12,13,14,15,16,17,18,19,20,21] (λ k=>[(3,.int .i64 ((k:Nat):Int))]) (λ k=>1<=k/\k<=l.length+1/\∀i,1<=i->i<k->cZ (l.getD (i-1) (⟨#[]⟩,0)).1 (l.getD i (⟨#[]⟩,0)).1=true) (λ k=>l.length-k) (1) (⟨Nat.le_refl _,by omega,λ i h1 hi=>by omega⟩) ?_ (λ k f hx=>?_);·repeat (first|exact bF _|refine bB (by exact rfl) ?_)
 refine K0a ?_;refine K1i ?_;refine bD (λ c7=>?_) (λ c7=>?_)
 ·refine sG ?_;refine aV ?_;refine gO [0,1,2,3,4,5,6,7,8,9,10,11] ?_;refine iR ?_;refine Ro ?_;refine jD ?_;refine mI ?_;refine iR ?_;refine jD ?_;refine mI ?_;refine li ?_;refine eS ?_;refine bD (λ c21=>?_) (λ c21=>?_);·refine cX ?_;refine aS results193 (λ w hw=>?_);exact⟨_,rfl,by simp only[Bool.false_eq_true,false_iff];intro h;have:=h k (by omega) (by omega);rw[c21] at this;exact Bool.noConfusion this,hw.done⟩
  ·refine Kc5 ?_;refine eN (k+1) ?_ ?_ ?_;·omega
   ·repeat' (first|exact bF _|refine bB ?_ ?_)
    exact rfl
   ·exact⟨by omega,by omega,λ i h1 hi=>by rcases Nat.lt_succ_iff_lt_or_eq.1 hi with h|rfl;exact hx.2.2 i h1 h;exact c21⟩
 ·refine K1u ?_;refine aS results193 (λ w hw=>?_);exact⟨_,rfl,by simp only[true_iff];intro i h1 hi;exact hx.2.2 i h1 (by omega),hw.done⟩
theorem mZ(ha:Cl w a (dI l))(hx:l.length<4611686018427387904) :
  Calls prog 109 #[.slice a l.length ca] w λ e w'=>∃r:Bool,e=.returned (.bool r)/\(r=true↔z7 l)/\St w [] [] w':=by
 refine enter func109 ntmps109 rfl rfl (SF.s1 ha) ?_;simp only[cC];refine Fh ?_;refine E9 ?_;refine gK [2,3,4,5,6,7,8,9,10,11,12,13,14,15,16,17,18,19,20,21] (λ k=>[(3,.int .i64 ((k:Nat):Int))]) (λ k=>1<=k/\k<=l.length+1/\∀i,1<=i->i<k->cZ (l.getD (i-1) (⟨#[]⟩,0)).1 (l.getD i (⟨#[]⟩,0)).1=true) (λ k=>l.length-k) (1) (⟨Nat.le_refl _,by omega,λ i h1 hi=>by omega⟩) ?_ (λ k f hx=>?_);·repeat (first|exact bF _|refine bB (by exact rfl) ?_)
 refine K0a ?_;refine K1i ?_;refine bD (λ c7=>?_) (λ c7=>?_)
 ·refine sG ?_;refine aV ?_;refine gO [0,1,2,3,4,5,6,7,8,9,10,11] ?_;refine iR ?_;refine jD ?_;refine mI ?_;refine iR ?_;refine Ro ?_;refine jD ?_;refine mI ?_;refine m4 ?_;refine eS ?_;refine bD (λ c21=>?_) (λ c21=>?_);·refine cX ?_;refine aS results109 (λ w hw=>?_);exact⟨_,rfl,by simp only[Bool.false_eq_true,false_iff];intro h;have:=h k (by omega) (by omega);rw[aC5 c21] at this;exact Bool.noConfusion this,hw.done⟩
  ·refine Kc5 ?_;refine eN (k+1) ?_ ?_ ?_;·omega
   ·repeat' (first|exact bF _|refine bB ?_ ?_)
    exact rfl
   ·exact⟨by omega,by omega,λ i h1 hi=>by rcases Nat.lt_succ_iff_lt_or_eq.1 hi with h|rfl;exact hx.2.2 i h1 h;exact aCG c21⟩
 ·refine K1u ?_;refine aS results109 (λ w hw=>?_);exact⟨_,rfl,by simp only[true_iff];intro i h1 hi;exact hx.2.2 i h1 (by omega),hw.done⟩
end
section
variable{w w':World}{F:Fr}{o:Ow}{a:Option Addr}{c:Nat}{n:Nd}{xs:List Int}{ys:List Pr}
theorem fx(o:Int)(w:World):Calls prog 202 #[.int .i64 o] w λ e w'=>e=.returned ({Nd.zero with kind:=7,bR:=o}:Nd).v/\St w [] [] w':=by refine enter func202 ntmps202 rfl rfl (SF.s0 w) ?_;simp only[cC];refine J0 ?_;refine aJ (λ x2=>?_);refine aG ?_;refine J2 ?_;refine xX ?_;refine aY results202 (λ w hw=>?_);exact⟨rfl,hw.done⟩
theorem SF.frz(h:SF w [] [] [] F [o] w'):SF w [] [] [] ((o.p,o.cs)::F) [] w':=h.freeze .head (by simp)
theorem SF.aEt{o2:Ow}(h:SF w [] [] [] F [o,o2] w'):SF w [] [] [] ((o2.p,o2.cs)::(o.p,o.cs)::F) [] w':=(h.freeze .head (by simp)).freeze .head (by simp)
theorem Tv:yI prog 164 24=true:=by kernel_rfl
theorem Zy:yI prog 37 8=true:=by kernel_rfl
theorem Ys{l:List Pr}(ha:Cl w a (dI l))(hl:l.length<=11728124029610):Calls prog 124 #[.slice a l.length c] w λ e w' =>
  ∃p:Option Addr,e=.returned (.slice p l.length l.length)/\(l=[]->p=none)/\SF w [] [] [] [] [⟨p,dI l,l.length,164,2⟩] w':=by
 refine enter func124 ntmps124 rfl rfl (SF.s1 ha) ?_;simp only[cC];refine Ka6 ?_;refine dW ?_;refine tH ?_;refine bD (λ c6=>?_) (λ c6=>?_);·have hl0:l=[]:=List.eq_nil_of_length_eq_zero (by omega);subst hl0;refine cX ?_;refine aS results124 (λ w hw=>?_);exact⟨none,rfl,λ _=>rfl,(hw.kQ 164 2).bA⟩
 ·refine aW ?_;refine J2 ?_;refine dW ?_;refine aN (oh rf rf zq Tv om om) (λ x9=>?_);refine zO ?_;refine iz (λ x12=>?_);refine aG ?_;refine Ka5 ?_;refine aS results124 (λ w hw=>?_);exact⟨some ⟨x9,0,none⟩,rfl,λ h=>absurd (congrArg List.length h) (by simpa using c6),by simpa using hw.bA (H':=[]) (F':=[])⟩
theorem av{l:List Int}(ha:Cl w a (aH l))(hl:l.length<=35184372088832):Calls prog 123 #[.slice a l.length c] w λ e w' =>
  ∃p:Option Addr,e=.returned (.slice p l.length l.length)/\(l=[]->p=none)/\SF w [] [] [] [] [⟨p,aH l,l.length,37,1⟩] w':=by
 refine enter func123 ntmps123 rfl rfl (SF.s1 ha) ?_;simp only[cC];refine Ka6 ?_;refine dW ?_;refine tH ?_;refine bD (λ c6=>?_) (λ c6=>?_);·have hl0:l=[]:=List.eq_nil_of_length_eq_zero (by omega);subst hl0;refine cX ?_;refine aS results123 (λ w hw=>?_);exact⟨none,rfl,λ _=>rfl,(hw.kQ 37 1).bA⟩
 ·refine aW ?_;refine J2 ?_;refine dW ?_;refine aN (nf rf rf cf Zy om om) (λ x9=>?_);refine zO ?_;refine iz (λ x12=>?_);refine aG ?_;refine Ka5 ?_;refine aS results123 (λ w hw=>?_);exact⟨some ⟨x9,0,none⟩,rfl,λ h=>absurd (congrArg List.length h) (by simpa using c6),by simpa using hw.bA (H':=[]) (F':=[])⟩
theorem X6(hr:sE w n xs ys)(h1:xs.length<=35184372088832)(h2:ys.length<=11728124029610):Calls prog 78 #[n.v] w λ e w' =>
  ∃p:Option Addr×Option Addr,e=.returned ({n with brA:=p.1,brC:=xs.length,prA:=p.2,dI:=ys.length}:Nd).v/\((xs=[]->p.1=none)/\(ys=[]->p.2=none))/\SF w [] [] [] [] [⟨p.2,dI ys,ys.length,164,2⟩,⟨p.1,aH xs,xs.length,37,1⟩] w':=by
 have e1:=hr.brN;have e2:=hr.prN;refine enter func78 ntmps78 rfl rfl (SF.s2 hr.br hr.pr) ?_;simp only[cC]
 simp only[Nd.v,Nd.cells];refine J0 ?_;refine bL (λ x1=>?_);refine aJ (λ x2=>?_);refine aG ?_;refine iB ?_;refine aD (Zv (Hc:=λ _=>[]) (Fc:=λ _=>[]) (hc:=λ w1 hw=>by rw[e1];exact av (hw.cl fin) h1)) (λ x5 h5=>?_);refine vU ?_;refine iB ?_;refine aD (Zv (Hc:=λ _=>[]) (Fc:=λ _=>[]) (hc:=λ w1 hw=>by rw[e2];exact Ys (hw.cl fin) h2)) (λ x9 h9=>?_);refine vU ?_;refine nG ?_;refine J5 ?_;refine aY results78 (λ w hw=>?_);exact⟨(x5,x9),by rw[e1,e2];rfl,⟨h5,h9⟩,hw.bA⟩
theorem W2(hr:sE w n xs ys)(h1:xs.length<=35184372088832)(h2:ys.length<=11728124029610):Calls prog 78 #[n.v] w λ e w' =>
  ∃p:Option Addr×Option Addr,e=.returned ({n with brA:=p.1,brC:=xs.length,prA:=p.2,dI:=ys.length}:Nd).v/\((xs=[]->p.1=none)/\(ys=[]->p.2=none))/\SF w [] [] [] [(p.1,aH xs),(p.2,dI ys)] [] w':=(X6 hr h1 h2).mono λ _ _ ⟨p,he,hp,hs⟩=>⟨p,he,hp,SF.aEt hs⟩
end
end Go.Proofs.YtbajmaoegmbfgaaGreat
namespace Go.Ct
section
def fG:aR:=⟨{Nd.zero with kind:=1},[],[]⟩
def aB(L:List aR)(r:Int):aR:=if 1<=r/\r<=L.length then L.getD (r-1).toNat aR.zero else aR.zero
theorem qV{L:List aR}{r:Int}(h:¬(1<=r/\r<=L.length)):aB L r=aR.zero:=if_neg h
theorem xG{L:List aR}{k:Nat}(h:k<L.length):aB L ((k+1:Nat):Int)=L.getD k aR.zero:=by unfold aB;rw[if_pos (by omega),show(((k+1:Nat):Int)-1).toNat=k by omega]
def cO(L:List aR):List aR:=fG::fG::L
theorem pC(L:List aR):(cO L).length=L.length+2:=rfl
theorem Qq:fG.Fit:=⟨rfl,rfl,by decide,by decide⟩
theorem Fits.all{L:List aR}(h:Fits L):Fits (cO L):=λ v hv=>by
 simp only[cO,List.mem_cons] at hv;rcases hv with rfl|rfl|hv;·exact Qq
 ·exact Qq
 ·exact h v hv
theorem Cu{L:List aR}(h:Fits L)(r:Int):(aB L r).Fit:=by
 unfold aB;split;·rename_i hr;exact h.at (by omega)
 ·exact R8
structure AX where
 pn:Option Addr
 cn:Nat
 pc:Option Addr
 cc:Nat
 b1:Option Addr
 c1:Nat
 b2:Option Addr
 c2:Nat
def fJ(k:Int)(cs:List Int)(init:Int):List Int:=if k=2∨k=3∨k=5∨k=6∨k=8 then cs++[init] else cs
def pW(n:Nd)(xs:List Int)(ys:List Pr)(c:Nat)(x:AX):aR :=aR.mk {n with main:=if n.kind=2 then((c+1:Nat):Int) else 0,prev:=if n.kind=3∨n.kind=5∨n.kind=6 then((c+1:Nat):Int) else 0,status:=if n.kind=8 then((c+1:Nat):Int) else 0,brA:=x.b1,brN:=xs.length,brC:=x.c1,prA:=x.b2,prN:=ys.length,dI:=x.c2} xs ys
theorem mF{k:Int}{cs:List Int}{init:Int}:cs.length<=(fJ k cs init).length/\(fJ k cs init).length<=cs.length+1:=by unfold fJ;split<;>simp
theorem M0{n:Nd}{xs:List Int}{ys:List Pr}{c:Nat}{x:AX}(h1:xs.length<=35184372088832)(h2:ys.length<=11728124029610):(pW n xs ys c x).Fit:=⟨rfl,rfl,h1,h2⟩
def aR.at_(v:aR)(p q:Option Addr):aR:=⟨{v.nd with brA:=p,brC:=v.xs.length,prA:=q,dI:=v.ys.length},v.xs,v.ys⟩
theorem aR.ji{v:aR}(h:v.Fit)(p q:Option Addr):(v.at_ p q).Fit:=⟨h.brN,h.prN,h.brS,h.prS⟩
end
end Go.Ct
namespace Go.Proofs.YtbajmaoegmbfgaaGreat
open Go.Proofs.Tryz
open Go.RowKit Go.Ct
section
variable{w:World}{D:List Nat}{b:Nat}{L:List aR}{cs:List Int}{gen acc:Int}{pn pc:Option Addr}{cn cc:Nat}{A:Fr}
theorem ly(w:World):Calls prog 64 #[] w λ e w'=>∃q:Nat×Option Addr,e=.returned (.pointer (some ⟨q.1,0,none⟩))/\True /\
  SF w [] [(q.1,mO [fG,fG] [] 0 0 q.2 2 none 0)] [] [] (mW [fG,fG] [] q.2 2 none 0) w':=by refine enter func64 ntmps64 rfl rfl (SF.s0 w) ?_;simp only[cC];refine cX ?_;refine J0 ?_;refine bN ?_;refine bN ?_;refine aN (Ut (c:=2) (sz:=14) rfl (λ _=>dF sO Ky rfl rfl rfl rfl (by simp only[D0,nW,List.cons_append,List.nil_append];exact rfl))) (λ x3=>?_);refine bN ?_;refine bN ?_;refine bL (λ x6=>?_);refine J1 ?_;refine aS results64 (λ w hw=>?_);exact⟨(x6,some ⟨x3,0,none⟩),rfl,trivial,(SF.oo (hw.kQ 37 1)).bA⟩
theorem jz(hs:SF w D [(b,mO L cs gen acc pn cn pc cc)] A [] (mW L cs pn cn pc cc) w)(r:Int)(hr:r<1):Calls prog 25 #[.pointer (some ⟨b,0,none⟩),.int .i64 r] w λ e w'=>∃q:Unit,e=.returned (aB L r).nd.v/\True /\
  SF w D [(b,mO L cs gen acc pn cn pc cc)] [] [] (mW L cs pn cn pc cc) w':=by
 refine enter func25 ntmps25 rfl rfl (zI hs) ?_;simp only[cC];refine K0q ?_;intro x4;refine kF ?_;refine Au ?_;(refine eF 7 (λ g7=>?_) (λ g7=>?_)<;>(try (exfalso;omega))<;>(refine aI ?_));refine J79 ?_;refine U8 ?_;refine Ka7 ?_;refine bD (λ c16=>?_) (λ c16=>?_)
 ·try (exfalso;omega)
  refine Kc2 ?_;refine aY results25 (λ w hw=>?_);exact⟨(),by rw[qV (by omega)];rfl,trivial,hw.bA⟩
 ·exact nv c16
theorem da(hs:SF w D [(b,mO L cs gen acc pn cn pc cc)] A [] (mW L cs pn cn pc cc) w){k:Nat}(hk:(k:Int)<9223372036854775807)(hl:L.length<=274877906944):Calls prog 25 #[.pointer (some ⟨b,0,none⟩),.int .i64 ((k+1:Nat):Int)] w λ e w'=>∃q:Unit,e=.returned (aB L ((k+1:Nat):Int)).nd.v/\True /\
  SF w D [(b,mO L cs gen acc pn cn pc cc)] [] [] (mW L cs pn cn pc cc) w':=by
 refine enter func25 ntmps25 rfl rfl (zI hs) ?_;simp only[cC];refine K0q ?_;intro x4;refine kF ?_;refine Au ?_;(refine Ka3 ?_);refine J79 ?_;refine U8 ?_;refine Ka7 ?_;refine bD (λ c16=>?_) (λ c16=>?_)
 ·try (exfalso;omega)
  refine Kc2 ?_;refine aY results25 (λ w hw=>?_);(exact⟨(),by rw[qV (by omega)];rfl,trivial,hw.bA⟩)
 ·try (exfalso;omega)
  refine aW ?_;refine Jg ?_;refine J3 ?_;refine aA ?_;refine tE ?_;refine Pz ?_;refine J5 ?_;refine aY results25 (λ w hw=>?_);(exact⟨(),by rw[xG (by omega)];rfl,trivial,hw.bA⟩)
theorem ya(hs:SF w D [(b,mO L cs gen acc pn cn pc cc)] A [] (mW L cs pn cn pc cc) w)(r:Int)(hr:r<=9223372036854775807)(hl:L.length<=274877906944):Calls prog 25 #[.pointer (some ⟨b,0,none⟩),.int .i64 r] w λ e w'=>∃q:Unit,e=.returned (aB L r).nd.v/\True /\
  SF w D [(b,mO L cs gen acc pn cn pc cc)] [] [] (mW L cs pn cn pc cc) w':=by
 rcases Int.lt_or_le r 1 with h|h;·exact jz hs r h
 ·obtain⟨k,rfl⟩:∃k:Nat,r=((k+1:Nat):Int):=⟨(r-1).toNat,by omega⟩;exact da hs (by omega) hl
end
end Go.Proofs.YtbajmaoegmbfgaaGreat
