/- Nodes are compared. -/
import Derived.Test.YtpobgmdalcpomaaGreatGAr2

set_option linter.unusedSimpArgs false
set_option linter.unusedVariables false
namespace Go.Proofs.YtpobgmdalcpomaaGreat
section
open Go.RowKit Go.Ct
theorem kf{a b:Nd}{x1 x2:List Int}{y1 y2:List Pr}{w:World}(ha:pQ w a x1 y1)(hb:pQ w b x2 y2) :
  Calls Tryz.prog 97 #[a.v,b.v] w λ e w'=>∃r:Bool,e=.returned (.bool r)/\(r=true↔qQ a b x1 x2 y1 y2)/\St w [] [] w':=by
 have e1:=ha.brN;have e2:=hb.brN;have e3:=ha.prN;have e4:=hb.prN
 refine enter Tryz.func97 Tryz.ntmps97 rfl rfl (SF.s0 w) ?_
 simp only[dB]
 all_goals (refine J0 ?_;refine bM (λ x2=>?_);refine bM (λ x3=>?_);refine iI ?_;refine gR ?_;refine J3 ?_;refine lY ?_;refine aA ?_)
 all_goals (first|refine aG ?_|(refine aC ?_;refine aE ?_)|(refine dG 10 (λ g10=>?_) (λ g10=>?_)<;>(first|refine aG ?_|(refine aC ?_;refine aE ?_))))
 all_goals (refine Ax ?_;refine U8 ?_;refine aA ?_)
 all_goals (first|refine aG ?_|(refine aC ?_;refine aE ?_)|(refine dG 17 (λ g17=>?_) (λ g17=>?_)<;>(first|refine aG ?_|(refine aC ?_;refine aE ?_))))
 all_goals (refine Ax ?_;refine U8 ?_;refine aA ?_)
 all_goals (first|refine aG ?_|(refine aC ?_;refine aE ?_)|(refine dG 24 (λ g24=>?_) (λ g24=>?_)<;>(first|refine aG ?_|(refine aC ?_;refine aE ?_))))
 all_goals (refine Ax ?_;refine U8 ?_;refine aA ?_)
 all_goals (first|refine aG ?_|(refine aC ?_;refine aE ?_)|(refine dG 31 (λ g31=>?_) (λ g31=>?_)<;>(first|refine aG ?_|(refine aC ?_;refine aE ?_))))
 all_goals (refine Ax ?_;refine U8 ?_;refine aA ?_)
 all_goals (first|refine aG ?_|(refine aC ?_;refine aE ?_)|(refine dG 38 (λ g38=>?_) (λ g38=>?_)<;>(first|refine aG ?_|(refine aC ?_;refine aE ?_))))
 all_goals (refine Ax ?_;(first|refine aG ?_|(refine aC ?_;refine Z4 ?_));refine cH ?_;refine aA ?_)
 all_goals (first|refine aG ?_|(refine aC ?_;refine aE ?_)|(refine dG 45 (λ g45=>?_) (λ g45=>?_)<;>(first|refine aG ?_|(refine aC ?_;refine aE ?_))))
 all_goals (refine Ax ?_;refine U8 ?_;refine aN ?_)
 all_goals
 refine bF (λ c51=>?_) (λ c51=>?_)
 ·try exact nv c51
  all_goals refine dH ?_
  all_goals
   refine aR Tryz.results97 (λ w hw=>?_)
   exact⟨_,rfl,by simp_all[qQ],hw.done⟩
 ·try exact nv c51
  all_goals (refine aZ ?_;refine gR ?_;refine J3 ?_;(refine aF (cV (hc:=λ w1 hw=>by simp only[e1,e2];exact Jk (ha.br.gA hw.st) (hb.br.gA hw.st) ha.brS)) (λ x56=>?_);try (refine aB (λ h56=>?_)));refine aA ?_)
  all_goals (first|refine aG ?_|(refine aC ?_;refine aE ?_)|(refine dG 57 (λ g57=>?_) (λ g57=>?_)<;>(first|refine aG ?_|(refine aC ?_;refine aE ?_))))
  all_goals (refine Ax ?_;((first|refine aG ?_|(refine aC ?_;(refine aF (cV (hc:=λ w1 hw=>by simp only[e3,e4];exact R4 (ha.pr.gA hw.st) (hb.pr.gA hw.st) ha.prS)) (λ x62=>?_);try (refine aB (λ h62=>?_))))));refine cH ?_;refine aA ?_)
  all_goals (first|refine aG ?_|(refine aC ?_;refine aE ?_)|(refine dG 64 (λ g64=>?_) (λ g64=>?_)<;>(first|refine aG ?_|(refine aC ?_;refine aE ?_))))
  all_goals (refine Ax ?_;refine rM ?_;refine aA ?_)
  all_goals (first|refine aG ?_|(refine aC ?_;refine aE ?_)|(refine dG 71 (λ g71=>?_) (λ g71=>?_)<;>(first|refine aG ?_|(refine aC ?_;refine aE ?_))))
  all_goals (refine Ax ?_;refine rM ?_;refine aA ?_)
  all_goals (first|refine aG ?_|(refine aC ?_;refine aE ?_)|(refine dG 78 (λ g78=>?_) (λ g78=>?_)<;>(first|refine aG ?_|(refine aC ?_;refine aE ?_))))
  all_goals (refine Ax ?_;refine rM ?_;refine aA ?_)
  all_goals (first|refine aG ?_|(refine aC ?_;refine aE ?_)|(refine dG 85 (λ g85=>?_) (λ g85=>?_)<;>(first|refine aG ?_|(refine aC ?_;refine aE ?_))))
  all_goals (refine Ax ?_;refine rM ?_;refine aA ?_)
  all_goals (first|refine aG ?_|(refine aC ?_;refine aE ?_)|(refine dG 92 (λ g92=>?_) (λ g92=>?_)<;>(first|refine aG ?_|(refine aC ?_;refine aE ?_))))
  all_goals (refine Ax ?_;refine rM ?_;refine J1 ?_)
  all_goals
   refine aR Tryz.results97 (λ w hw=>?_)
   exact⟨_,rfl,by simp_all[qQ],hw.done⟩
theorem oh{a b:Nd}{x1 x2:List Int}{y1 y2:List Pr}{w:World}(ha:pQ w a x1 y1)(hb:pQ w b x2 y2) :
  Calls Tryz.prog 125 #[a.v,b.v] w λ e w'=>∃r:Bool,e=.returned (.bool r)/\(r=true↔qQ a b x1 x2 y1 y2)/\St w [] [] w':=by
 have e1:=ha.brN;have e2:=hb.brN;have e3:=ha.prN;have e4:=hb.prN
 refine enter Tryz.func125 Tryz.ntmps125 rfl rfl (SF.s0 w) ?_
 simp only[dB]
 all_goals (refine J0 ?_;refine bM (λ x2=>?_);refine bM (λ x3=>?_);refine iI ?_;refine V5 (by dsimp only[List.append]) ?_;refine J3 ?_;refine J3 ?_;refine kV ?_;refine aA ?_)
 all_goals (first|refine aG ?_|(refine aC ?_;refine aE ?_)|(refine dG 10 (λ g10=>?_) (λ g10=>?_)<;>(first|refine aG ?_|(refine aC ?_;refine aE ?_))))
 all_goals (refine Ax ?_;refine rM ?_;refine aA ?_)
 all_goals (first|refine aG ?_|(refine aC ?_;refine aE ?_)|(refine dG 17 (λ g17=>?_) (λ g17=>?_)<;>(first|refine aG ?_|(refine aC ?_;refine aE ?_))))
 all_goals (refine Ax ?_;refine rM ?_;refine aA ?_)
 all_goals (first|refine aG ?_|(refine aC ?_;refine aE ?_)|(refine dG 24 (λ g24=>?_) (λ g24=>?_)<;>(first|refine aG ?_|(refine aC ?_;refine aE ?_))))
 all_goals (refine Ax ?_;refine rM ?_;refine aA ?_)
 all_goals (first|refine aG ?_|(refine aC ?_;refine aE ?_)|(refine dG 31 (λ g31=>?_) (λ g31=>?_)<;>(first|refine aG ?_|(refine aC ?_;refine aE ?_))))
 all_goals (refine Ax ?_;((first|refine aG ?_|(refine aC ?_;(refine aF (cV (hc:=λ w1 hw=>by simp only[e1,e2];exact j8 (ha.br.gA hw.st) (hb.br.gA hw.st) ha.brS)) (λ x36=>?_);try (refine aB (λ h36=>?_))))));refine cH ?_;refine aA ?_)
 all_goals (first|refine aG ?_|(refine aC ?_;refine aE ?_)|(refine dG 38 (λ g38=>?_) (λ g38=>?_)<;>(first|refine aG ?_|(refine aC ?_;refine aE ?_))))
 all_goals (refine Ax ?_;refine rM ?_;refine aA ?_)
 all_goals (first|refine aG ?_|(refine aC ?_;refine aE ?_)|(refine dG 45 (λ g45=>?_) (λ g45=>?_)<;>(first|refine aG ?_|(refine aC ?_;refine aE ?_))))
 all_goals (refine Ax ?_;(first|refine aG ?_|(refine aC ?_;refine Zz ?_));refine cH ?_;refine aA ?_)
 all_goals (first|refine aG ?_|(refine aC ?_;refine aE ?_)|(refine dG 52 (λ g52=>?_) (λ g52=>?_)<;>(first|refine aG ?_|(refine aC ?_;refine aE ?_))))
 all_goals (refine Ax ?_;refine rM ?_;refine aA ?_)
 all_goals (first|refine aG ?_|(refine aC ?_;refine aE ?_)|(refine dG 59 (λ g59=>?_) (λ g59=>?_)<;>(first|refine aG ?_|(refine aC ?_;refine aE ?_))))
 all_goals (refine Ax ?_;((first|refine aG ?_|(refine aC ?_;(refine aF (cV (hc:=λ w1 hw=>by simp only[e3,e4];exact rl (ha.pr.gA hw.st) (hb.pr.gA hw.st) ha.prS)) (λ x64=>?_);try (refine aB (λ h64=>?_))))));refine cH ?_;refine aA ?_)
 all_goals (first|refine aG ?_|(refine aC ?_;refine aE ?_)|(refine dG 66 (λ g66=>?_) (λ g66=>?_)<;>(first|refine aG ?_|(refine aC ?_;refine aE ?_))))
 all_goals (refine Ax ?_;refine rM ?_;refine aA ?_)
 all_goals (first|refine aG ?_|(refine aC ?_;refine aE ?_)|(refine dG 73 (λ g73=>?_) (λ g73=>?_)<;>(first|refine aG ?_|(refine aC ?_;refine aE ?_))))
 all_goals (refine Ax ?_;refine rM ?_;refine aA ?_)
 all_goals (first|refine aG ?_|(refine aC ?_;refine aE ?_)|(refine dG 80 (λ g80=>?_) (λ g80=>?_)<;>(first|refine aG ?_|(refine aC ?_;refine aE ?_))))
 all_goals (refine Ax ?_;refine rM ?_;refine aA ?_)
 all_goals (first|refine aG ?_|(refine aC ?_;refine aE ?_)|(refine dG 87 (λ g87=>?_) (λ g87=>?_)<;>(first|refine aG ?_|(refine aC ?_;refine aE ?_))))
 all_goals (refine Ax ?_;refine rM ?_;refine aA ?_)
 all_goals (first|refine aG ?_|(refine aC ?_;refine aE ?_)|(refine dG 94 (λ g94=>?_) (λ g94=>?_)<;>(first|refine aG ?_|(refine aC ?_;refine aE ?_))))
 all_goals (refine Ax ?_;refine rM ?_;refine J1 ?_)
 all_goals
 refine aR Tryz.results125 (λ w hw=>?_)
 exact⟨_,rfl,by simp_all[qQ],hw.done⟩
theorem Kj(a:Nd)(w:World):Calls Tryz.prog 58 #[a.v] w λ e w'=>∃r:Bool,e=.returned (.bool r)/\(r=true↔(a.kind=3∨a.kind=5∨a.kind=6))/\St w [] [] w':=by
 refine enter Tryz.func58 Tryz.ntmps58 rfl rfl (SF.s0 w) ?_
 simp only[dB]
 all_goals (refine J0 ?_;refine bM (λ x1=>?_);refine iI ?_;refine gR ?_;refine aN ?_;refine cZ ?_;refine aT ?_;refine kK ?_)
 all_goals
 refine bF (λ c5=>?_) (λ c5=>?_)
 ·try exact nv c5
  all_goals refine aZ ?_
  all_goals
   refine bF (λ c5=>?_) (λ c5=>?_)
   ·try exact nv c5
    all_goals refine dH ?_
    all_goals
    refine aR Tryz.results58 (λ w hw=>?_)
    exact⟨_,rfl,by simp_all,hw.done⟩
   ·try exact nv c5
    all_goals (refine mN ?_;refine dH ?_)
    all_goals
    refine aR Tryz.results58 (λ w hw=>?_)
    exact⟨_,rfl,by simp_all,hw.done⟩
 ·try exact nv c5
  all_goals refine kK ?_
  all_goals
   refine bF (λ c5=>?_) (λ c5=>?_)
   ·try exact nv c5
    all_goals refine aZ ?_
    all_goals
    refine bF (λ c5=>?_) (λ c5=>?_)
    ·try exact nv c5
     all_goals refine dH ?_
     all_goals
      refine aR Tryz.results58 (λ w hw=>?_)
      exact⟨_,rfl,by simp_all,hw.done⟩
    ·try exact nv c5
     all_goals (refine mN ?_;refine dH ?_)
     all_goals
      refine aR Tryz.results58 (λ w hw=>?_)
      exact⟨_,rfl,by simp_all,hw.done⟩
   ·try exact nv c5
    all_goals (refine dD ?_;refine P0 ?_)
    all_goals
    refine bF (λ c5=>?_) (λ c5=>?_)
    ·try exact nv c5
     all_goals refine dH ?_
     all_goals
      refine aR Tryz.results58 (λ w hw=>?_)
      exact⟨_,rfl,by simp_all,hw.done⟩
    ·try exact nv c5
     all_goals (refine mN ?_;refine dH ?_)
     all_goals
      refine aR Tryz.results58 (λ w hw=>?_)
      exact⟨_,rfl,by simp_all,hw.done⟩
theorem wC(a:Nd)(w:World):Calls Tryz.prog 74 #[a.v] w λ e w'=>∃r:Bool,e=.returned (.bool r)/\(r=true↔(a.kind=3∨a.kind=5∨a.kind=6))/\St w [] [] w':=by
 refine enter Tryz.func74 Tryz.ntmps74 rfl rfl (SF.s0 w) ?_
 simp only[dB]
 all_goals (refine J0 ?_;refine bM (λ x1=>?_);refine J1 ?_;refine gR ?_;refine kV ?_;refine aA ?_)
 all_goals (first|refine aG ?_|(refine aC ?_;refine aE ?_)|(refine dG 6 (λ g6=>?_) (λ g6=>?_)<;>(first|refine aG ?_|(refine aC ?_;refine aE ?_))))
 all_goals (refine q9 ?_;refine aA ?_)
 all_goals (first|refine aG ?_|(refine aC ?_;refine aE ?_)|(refine dG 11 (λ g11=>?_) (λ g11=>?_)<;>(first|refine aG ?_|(refine aC ?_;refine aE ?_))))
 all_goals (refine q9 ?_;refine J1 ?_)
 all_goals
 refine aR Tryz.results74 (λ w hw=>?_)
 exact⟨_,rfl,by simp_all,hw.done⟩
end

/- Loops over slices that are read: contracts, the second part. -/
section
open Go.RowKit Go.Ct
theorem Pt{xs:List Int}{a:Option Addr}{ca:Nat}{w:World}(ha:Cl w a (aJ xs))(hx:xs.length<4611686018427387904) :
  Calls Tryz.prog 128 #[.slice a xs.length ca] w λ e w'=>∃r:Bool,e=.returned (.bool r)/\(r=true↔Pos xs)/\St w [] [] w':=by
 refine enter Tryz.func128 Tryz.ntmps128 rfl rfl (SF.s1 ha) ?_
 simp only[dB]
 all_goals (refine dH ?_;refine jS ?_;refine dW ?_;refine uM ?_;refine cZ ?_)
 all_goals
 refine gE [2,4,7,8,9,10,11,12,13] (λ k=>[(7,.int .i64 ((k:Nat):Int))]) (λ k=>k<=xs.length/\∀i,i<k->1<=xs.getD i 0) (λ k=>xs.length-k) (0) (⟨Nat.zero_le _,λ i hi=>absurd hi (Nat.not_lt_zero i)⟩) ?_ (λ k f hx=>?_)
 ·repeat (first|exact bI _|refine bE (by first|exact rfl|(conv=>{lhs;whnf};simp;done)) ?_)
 dsimp only[gW,List.map,List.cons_append,List.nil_append]
 all_goals (refine J0 ?_;refine uQ ?_;refine aT ?_)
 all_goals
  refine bF (λ c8=>?_) (λ c8=>?_)
  ·try exact nv c8
   all_goals (refine oD ?_;refine J0 ?_;refine Dc ?_;refine J1 ?_;refine J2 ?_;refine uQ ?_)
   all_goals
   refine bF (λ c12=>?_) (λ c12=>?_)
   ·try exact nv c12
    all_goals refine dH ?_
    all_goals
     refine aR Tryz.results128 (λ w hw=>?_)
     exact⟨_,rfl,by simp only[Bool.false_eq_true,false_iff];intro h;have:=h k (by omega);omega,hw.done⟩
   ·try exact nv c12
    all_goals (refine mN ?_;refine Ld ?_;refine uM ?_)
    all_goals
     refine fD (k+1) ?_ ?_ ?_
     ·first|omega|(simp only[];omega)
     ·repeat' (first|exact bI _|refine bE ?_ ?_)
      all_goals (first|exact rfl|(conv=>{lhs;whnf};simp;done)|(conv=>{lhs;whnf};congr 1;omega))
     ·exact⟨by omega,λ i hi=>by rcases Nat.lt_succ_iff_lt_or_eq.1 hi with h|rfl;exact hx.2 i h;omega⟩
  ·try exact nv c8
   all_goals (refine bQ rfl ?_;refine dH ?_)
   all_goals
   refine aR Tryz.results128 (λ w hw=>?_)
   exact⟨_,rfl,by simp only[true_iff];intro i hi;exact hx.2 i (by omega),hw.done⟩
theorem Ni{l:List Pr}{a:Option Addr}{ca:Nat}{w:World}(ha:Cl w a (dI l))(hx:l.length<4611686018427387904) :
  Calls Tryz.prog 130 #[.slice a l.length ca] w λ e w'=>∃r:Bool,e=.returned (.bool r)/\(r=true↔Fj l)/\St w [] [] w':=by
 refine enter Tryz.func130 Tryz.ntmps130 rfl rfl (SF.s1 ha) ?_
 simp only[dB]
 all_goals (refine dH ?_;refine jS ?_;refine dW ?_;refine uM ?_;refine cZ ?_)
 all_goals
 refine gE [2,4,7,8,9,10,11,12,13,14,15] (λ k=>[(7,.int .i64 ((k:Nat):Int))]) (λ k=>k<=l.length/\∀i,i<k->(l.getD i (⟨#[]⟩,0)).1.size<=64) (λ k=>l.length-k) (0) (⟨Nat.zero_le _,λ i hi=>absurd hi (Nat.not_lt_zero i)⟩) ?_ (λ k f hx=>?_)
 ·repeat (first|exact bI _|refine bE (by first|exact rfl|(conv=>{lhs;whnf};simp;done)) ?_)
 dsimp only[gW,List.map,List.cons_append,List.nil_append]
 all_goals (refine J0 ?_;refine uQ ?_;refine aT ?_)
 all_goals
  refine bF (λ c8=>?_) (λ c8=>?_)
  ·try exact nv c8
   all_goals (refine oD ?_;refine J0 ?_;refine Dc ?_;refine aY (λ x4=>?_);refine J5 ?_;refine gR ?_;refine lR ?_;refine xG ?_;refine aN ?_)
   all_goals
   refine bF (λ c14=>?_) (λ c14=>?_)
   ·try exact nv c14
    all_goals refine dH ?_
    all_goals
     refine aR Tryz.results130 (λ w hw=>?_)
     exact⟨_,rfl,by simp only[Bool.false_eq_true,false_iff];intro h;have:=h k (by omega);omega,hw.done⟩
   ·try exact nv c14
    all_goals (refine mN ?_;refine Ld ?_;refine uM ?_)
    all_goals
     refine fD (k+1) ?_ ?_ ?_
     ·first|omega|(simp only[];omega)
     ·repeat' (first|exact bI _|refine bE ?_ ?_)
      all_goals (first|exact rfl|(conv=>{lhs;whnf};simp;done)|(conv=>{lhs;whnf};congr 1;omega))
     ·exact⟨by omega,λ i hi=>by rcases Nat.lt_succ_iff_lt_or_eq.1 hi with h|rfl;exact hx.2 i h;omega⟩
  ·try exact nv c8
   all_goals (refine bQ rfl ?_;refine dH ?_)
   all_goals
   refine aR Tryz.results130 (λ w hw=>?_)
   exact⟨_,rfl,by simp only[true_iff];intro i hi;exact hx.2 i (by omega),hw.done⟩
theorem Xk{l:List Pr}{a:Option Addr}{ca:Nat}{w:World}(ha:Cl w a (dI l))(hx:l.length<4611686018427387904) :
  Calls Tryz.prog 101 #[.slice a l.length ca] w λ e w'=>∃r:Bool,e=.returned (.bool r)/\(r=true↔Fj l)/\St w [] [] w':=by
 refine enter Tryz.func101 Tryz.ntmps101 rfl rfl (SF.s1 ha) ?_
 simp only[dB]
 all_goals (refine Be ?_;refine Cq ?_)
 all_goals
 refine gE [2,3,4,5,6,7,8,9,10,11,12,13,14,15,16] (λ k=>[(3,.int .i64 ((k:Nat):Int))]) (λ k=>k<=l.length/\∀i,i<k->(l.getD i (⟨#[]⟩,0)).1.size<=64) (λ k=>l.length-k) (0) (⟨Nat.zero_le _,λ i hi=>absurd hi (Nat.not_lt_zero i)⟩) ?_ (λ k f hx=>?_)
 ·repeat (first|exact bI _|refine bE (by first|exact rfl|(conv=>{lhs;whnf};simp;done)) ?_)
 dsimp only[gW,List.map,List.cons_append,List.nil_append]
 all_goals (refine Cy ?_;refine dW ?_;refine uQ ?_)
 all_goals
  refine bF (λ c7=>?_) (λ c7=>?_)
  ·try exact nv c7
   all_goals (refine oD ?_;refine jE ?_;refine gG ?_;refine J3 ?_;refine lR ?_;refine xG ?_;refine aN ?_)
   all_goals
   refine bF (λ c16=>?_) (λ c16=>?_)
   ·try exact nv c16
    all_goals refine dH ?_
    all_goals
     refine aR Tryz.results101 (λ w hw=>?_)
     exact⟨_,rfl,by simp only[Bool.false_eq_true,false_iff];intro h;have:=h k (by omega);omega,hw.done⟩
   ·try exact nv c16
    all_goals (refine mN ?_;refine uH ?_)
    all_goals
     refine fD (k+1) ?_ ?_ ?_
     ·first|omega|(simp only[];omega)
     ·repeat' (first|exact bI _|refine bE ?_ ?_)
      all_goals (first|exact rfl|(conv=>{lhs;whnf};simp;done)|(conv=>{lhs;whnf};congr 1;omega))
     ·exact⟨by omega,λ i hi=>by rcases Nat.lt_succ_iff_lt_or_eq.1 hi with h|rfl;exact hx.2 i h;omega⟩
  ·try exact nv c7
   all_goals (refine bQ rfl ?_;refine dH ?_)
   all_goals
   refine aR Tryz.results101 (λ w hw=>?_)
   exact⟨_,rfl,by simp only[true_iff];intro i hi;exact hx.2 i (by omega),hw.done⟩
theorem Uj{l:List Pr}{a:Option Addr}{ca:Nat}{w:World}(ha:Cl w a (dI l))(hx:l.length<4611686018427387904) :
  Calls Tryz.prog 129 #[.slice a l.length ca] w λ e w'=>∃r:Bool,e=.returned (.bool r)/\(r=true↔mj l)/\St w [] [] w':=by
 refine enter Tryz.func129 Tryz.ntmps129 rfl rfl (SF.s1 ha) ?_
 simp only[dB]
 all_goals (refine Be ?_;refine Cq ?_)
 all_goals
 refine gE [2,3,4,5,6,7,8,9,10,11,12,13,14,15,16,17,18,19,20,21] (λ k=>[(3,.int .i64 ((k:Nat):Int))]) (λ k=>1<=k/\k<=l.length+1/\∀i,1<=i->i<k->eC (l.getD (i-1) (⟨#[]⟩,0)).1 (l.getD i (⟨#[]⟩,0)).1=true) (λ k=>l.length-k) (1) (⟨Nat.le_refl _,by omega,λ i h1 hi=>by omega⟩) ?_ (λ k f hx=>?_)
 ·repeat (first|exact bI _|refine bE (by first|exact rfl|(conv=>{lhs;whnf};simp;done)) ?_)
 dsimp only[gW,List.map,List.cons_append,List.nil_append]
 all_goals (refine Cy ?_;refine dW ?_;refine uQ ?_)
 all_goals
  refine bF (λ c7=>?_) (λ c7=>?_)
  ·try exact nv c7
   all_goals (refine oD ?_;refine aT ?_;refine eE [0,1,2,3,4,5,6,7,8,9,10,11] ?_;refine gD ?_;refine kU ?_;refine iY ?_;refine jP ?_;refine gD ?_;refine iY ?_;refine jP ?_;refine W3 ?_;refine eO ?_)
   all_goals
   refine bF (λ c21=>?_) (λ c21=>?_)
   ·try exact nv c21
    all_goals refine dH ?_
    all_goals
     refine aR Tryz.results129 (λ w hw=>?_)
     exact⟨_,rfl,by simp only[Bool.false_eq_true,false_iff];intro h;have:=h k (by omega) (by omega);rw[c21] at this;exact Bool.noConfusion this,hw.done⟩
   ·try exact nv c21
    all_goals (refine mN ?_;refine uH ?_)
    all_goals
     refine fD (k+1) ?_ ?_ ?_
     ·first|omega|(simp only[];omega)
     ·repeat' (first|exact bI _|refine bE ?_ ?_)
      all_goals (first|exact rfl|(conv=>{lhs;whnf};simp;done)|(conv=>{lhs;whnf};congr 1;omega))
     ·exact⟨by omega,by omega,λ i h1 hi=>by rcases Nat.lt_succ_iff_lt_or_eq.1 hi with h|rfl;exact hx.2.2 i h1 h;exact c21⟩
  ·try exact nv c7
   all_goals (refine bQ rfl ?_;refine dH ?_)
   all_goals
   refine aR Tryz.results129 (λ w hw=>?_)
   exact⟨_,rfl,by simp only[true_iff];intro i h1 hi;exact hx.2.2 i h1 (by omega),hw.done⟩
theorem mC{l:List Pr}{a:Option Addr}{ca:Nat}{w:World}(ha:Cl w a (dI l))(hx:l.length<4611686018427387904) :
  Calls Tryz.prog 100 #[.slice a l.length ca] w λ e w'=>∃r:Bool,e=.returned (.bool r)/\(r=true↔mj l)/\St w [] [] w':=by
 refine enter Tryz.func100 Tryz.ntmps100 rfl rfl (SF.s1 ha) ?_
 simp only[dB]
 all_goals (refine Be ?_;refine Cq ?_)
 all_goals
 refine gE [2,3,4,5,6,7,8,9,10,11,12,13,14,15,16,17,18,19,20,21] (λ k=>[(3,.int .i64 ((k:Nat):Int))]) (λ k=>1<=k/\k<=l.length+1/\∀i,1<=i->i<k->eC (l.getD (i-1) (⟨#[]⟩,0)).1 (l.getD i (⟨#[]⟩,0)).1=true) (λ k=>l.length-k) (1) (⟨Nat.le_refl _,by omega,λ i h1 hi=>by omega⟩) ?_ (λ k f hx=>?_)
 ·repeat (first|exact bI _|refine bE (by first|exact rfl|(conv=>{lhs;whnf};simp;done)) ?_)
 dsimp only[gW,List.map,List.cons_append,List.nil_append]
 all_goals (refine Cy ?_;refine dW ?_;refine uQ ?_)
 all_goals
  refine bF (λ c7=>?_) (λ c7=>?_)
  ·try exact nv c7
   all_goals (refine oD ?_;refine aT ?_;refine eE [0,1,2,3,4,5,6,7,8,9,10,11] ?_;refine gD ?_;refine iY ?_;refine jP ?_;refine gD ?_;refine kU ?_;refine iY ?_;refine jP ?_;refine bh ?_;refine eO ?_)
   all_goals
   refine bF (λ c21=>?_) (λ c21=>?_)
   ·try exact nv c21
    all_goals refine dH ?_
    all_goals
     refine aR Tryz.results100 (λ w hw=>?_)
     exact⟨_,rfl,by simp only[Bool.false_eq_true,false_iff];intro h;have:=h k (by omega) (by omega);rw[vb c21] at this;exact Bool.noConfusion this,hw.done⟩
   ·try exact nv c21
    all_goals (refine mN ?_;refine uH ?_)
    all_goals
     refine fD (k+1) ?_ ?_ ?_
     ·first|omega|(simp only[];omega)
     ·repeat' (first|exact bI _|refine bE ?_ ?_)
      all_goals (first|exact rfl|(conv=>{lhs;whnf};simp;done)|(conv=>{lhs;whnf};congr 1;omega))
     ·exact⟨by omega,by omega,λ i h1 hi=>by rcases Nat.lt_succ_iff_lt_or_eq.1 hi with h|rfl;exact hx.2.2 i h1 h;exact w9 c21⟩
  ·try exact nv c7
   all_goals (refine bQ rfl ?_;refine dH ?_)
   all_goals
   refine aR Tryz.results100 (λ w hw=>?_)
   exact⟨_,rfl,by simp only[true_iff];intro i h1 hi;exact hx.2.2 i h1 (by omega),hw.done⟩
end

/- Nodes are made; lists are copied. -/
section
open Go.RowKit Go.Ct
theorem SF.z4{w w':World}{F:Fr}{o:Ow}(h:SF w [] [] [] F [o] w'):SF w [] [] [] ((o.p,o.cs)::F) [] w':=h.freeze .head (by simp)
theorem SF.zb{w w':World}{F:Fr}{o o2:Ow}(h:SF w [] [] [] F [o,o2] w'):SF w [] [] [] ((o2.p,o2.cs)::(o.p,o.cs)::F) [] w':=(h.freeze .head (by simp)).freeze .head (by simp)
theorem Po:wI Tryz.prog 47 24=true:=by kernel_rfl
theorem U1:wI Tryz.prog 52 8=true:=by kernel_rfl
theorem U2{l:List Pr}{a:Option Addr}{c:Nat}{w:World}(ha:Cl w a (dI l))(hl:l.length<=11728124029610):Calls Tryz.prog 96 #[.slice a l.length c] w λ e w' =>
  ∃p:Option Addr,e=.returned (.slice p l.length l.length)/\(l=[]->p=none)/\SF w [] [] [] [] [⟨p,dI l,l.length,47,2⟩] w':=by
 refine enter Tryz.func96 Tryz.ntmps96 rfl rfl (SF.s1 ha) ?_
 simp only[dB]
 all_goals (refine dH ?_;refine jS ?_;refine dW ?_;refine tE ?_)
 all_goals
 refine bF (λ c6=>?_) (λ c6=>?_)
 ·try exact nv c6
  all_goals
   have hl0:l=[]:=List.eq_nil_of_length_eq_zero (by omega)
   subst hl0
  all_goals refine dH ?_
  all_goals
   refine aR Tryz.results96 (λ w hw=>?_)
   exact⟨none,rfl,λ _=>rfl,(hw.jK 47 2).aV⟩
 ·try exact nv c6
  all_goals (refine aZ ?_;refine J2 ?_;refine dW ?_;refine aF (bf rf rf ib Po om om) (λ x9=>?_);refine yQ ?_;refine Y5 (λ x12=>?_);refine aN ?_;refine J2 ?_;refine J1 ?_)
  all_goals
   refine aR Tryz.results96 (λ w hw=>?_)
   exact⟨some ⟨x9,0,none⟩,rfl,λ h=>absurd (congrArg List.length h) (by simpa using c6),by simpa using hw.aV (H':=[]) (F':=[])⟩
theorem Us{l:List Int}{a:Option Addr}{c:Nat}{w:World}(ha:Cl w a (aJ l))(hl:l.length<=35184372088832):Calls Tryz.prog 95 #[.slice a l.length c] w λ e w' =>
  ∃p:Option Addr,e=.returned (.slice p l.length l.length)/\(l=[]->p=none)/\SF w [] [] [] [] [⟨p,aJ l,l.length,52,1⟩] w':=by
 refine enter Tryz.func95 Tryz.ntmps95 rfl rfl (SF.s1 ha) ?_
 simp only[dB]
 all_goals (refine dH ?_;refine jS ?_;refine dW ?_;refine tE ?_)
 all_goals
 refine bF (λ c6=>?_) (λ c6=>?_)
 ·try exact nv c6
  all_goals
   have hl0:l=[]:=List.eq_nil_of_length_eq_zero (by omega)
   subst hl0
  all_goals refine dH ?_
  all_goals
   refine aR Tryz.results95 (λ w hw=>?_)
   exact⟨none,rfl,λ _=>rfl,(hw.jK 52 1).aV⟩
 ·try exact nv c6
  all_goals (refine aZ ?_;refine J2 ?_;refine dW ?_;refine aF (ad rf rf Wa U1 om om) (λ x9=>?_);refine yQ ?_;refine Y5 (λ x12=>?_);refine aN ?_;refine J2 ?_;refine J1 ?_)
  all_goals
   refine aR Tryz.results95 (λ w hw=>?_)
   exact⟨some ⟨x9,0,none⟩,rfl,λ h=>absurd (congrArg List.length h) (by simpa using c6),by simpa using hw.aV (H':=[]) (F':=[])⟩
theorem gi{n:Nd}{xs:List Int}{ys:List Pr}{w:World}(hr:pQ w n xs ys)(h1:xs.length<=35184372088832)(h2:ys.length<=11728124029610):Calls Tryz.prog 68 #[n.v] w λ e w' =>
  ∃p:Option Addr×Option Addr,e=.returned ({n with brA:=p.1,brC:=xs.length,prA:=p.2,dI:=ys.length}:Nd).v/\((xs=[]->p.1=none)/\(ys=[]->p.2=none))/\SF w [] [] [] [] [⟨p.2,dI ys,ys.length,47,2⟩,⟨p.1,aJ xs,xs.length,52,1⟩] w':=by
 have e1:=hr.brN;have e2:=hr.prN
 refine enter Tryz.func68 Tryz.ntmps68 rfl rfl (SF.s2 hr.br hr.pr) ?_
 simp only[dB]
 simp only[Nd.v,Nd.cells]
 all_goals (refine J0 ?_;refine bM (λ x1=>?_);refine aY (λ x2=>?_);refine aN ?_;refine gR ?_;(refine aF (Y0 (Hc:=λ _=>[]) (Fc:=λ _=>[]) (hc:=λ w1 hw=>by rw[e1];exact Us (hw.cl fin) h1)) (λ x5=>?_);try (refine aB (λ h5=>?_)));refine qS ?_;refine gR ?_;(refine aF (Y0 (Hc:=λ _=>[]) (Fc:=λ _=>[]) (hc:=λ w1 hw=>by rw[e2];exact U2 (hw.cl fin) h2)) (λ x9=>?_);try (refine aB (λ h9=>?_)));refine qS ?_;refine iU ?_;refine J5 ?_)
 all_goals
 refine bH Tryz.results68 (λ w hw=>?_)
 exact⟨(x5,x9),by rw[e1,e2];rfl,⟨h5,h9⟩,hw.aV⟩
theorem gu{n:Nd}{xs:List Int}{ys:List Pr}{w:World}(hr:pQ w n xs ys)(h1:xs.length<=35184372088832)(h2:ys.length<=11728124029610):Calls Tryz.prog 68 #[n.v] w λ e w' =>
  ∃p:Option Addr×Option Addr,e=.returned ({n with brA:=p.1,brC:=xs.length,prA:=p.2,dI:=ys.length}:Nd).v/\((xs=[]->p.1=none)/\(ys=[]->p.2=none))/\SF w [] [] [] [(p.1,aJ xs),(p.2,dI ys)] [] w':=(gi hr h1 h2).mono λ _ _ ⟨p,he,hp,hs⟩=>⟨p,he,hp,SF.zb hs⟩
end

/- Nodes of memories: New, Node, Alloc. -/
end Go.Proofs.YtpobgmdalcpomaaGreat
namespace Go.Ct
section
def dE:aQ:=⟨{Nd.zero with kind:=1},[],[]⟩
def aD(L:List aQ)(r:Int):aQ:=if 1<=r/\r<=L.length then L.getD (r-1).toNat aQ.zero else aQ.zero
theorem jC{L:List aQ}{r:Int}(h:¬(1<=r/\r<=L.length)):aD L r=aQ.zero:=if_neg h
theorem pC{L:List aQ}{k:Nat}(h:k<L.length):aD L ((k+1:Nat):Int)=L.getD k aQ.zero:=by
 unfold aD
 rw[if_pos (by omega),show(((k+1:Nat):Int)-1).toNat=k by omega]
def tg(L:List aQ):List aQ:=dE::dE::L
theorem Mj:dE.Fit:=⟨rfl,rfl,by decide,by decide⟩
theorem Aq{L:List aQ}(h:Fits L)(r:Int):(aD L r).Fit:=by
 unfold aD
 split
 ·rename_i hr
  exact h.at (by omega)
 ·exact Me
structure AX where
 pn:Option Addr
 cn:Nat
 pc:Option Addr
 cc:Nat
 b1:Option Addr
 c1:Nat
 b2:Option Addr
 c2:Nat
def eQ(k:Int)(cs:List Int)(init:Int):List Int:=if k=2∨k=3∨k=5∨k=6∨k=8 then cs++[init] else cs
def gK(n:Nd)(xs:List Int)(ys:List Pr)(c:Nat)(x:AX):aQ :=
 aQ.mk {n with main:=if n.kind=2 then((c+1:Nat):Int) else 0,prev:=if n.kind=3∨n.kind=5∨n.kind=6 then((c+1:Nat):Int) else 0,status:=if n.kind=8 then((c+1:Nat):Int) else 0,brA:=x.b1,brN:=xs.length,brC:=x.c1,prA:=x.b2,prN:=ys.length,dI:=x.c2} xs ys
theorem B1{k:Int}{cs:List Int}{init:Int}:cs.length<=(eQ k cs init).length/\(eQ k cs init).length<=cs.length+1:=by unfold eQ;split<;>simp
theorem A7{n:Nd}{xs:List Int}{ys:List Pr}{c:Nat}{x:AX}(h1:xs.length<=35184372088832)(h2:ys.length<=11728124029610):(gK n xs ys c x).Fit:=⟨rfl,rfl,h1,h2⟩
def aQ.at_(v:aQ)(p q:Option Addr):aQ:=⟨{v.nd with brA:=p,brC:=v.xs.length,prA:=q,dI:=v.ys.length},v.xs,v.ys⟩
theorem aQ.su{v:aQ}(h:v.Fit)(p q:Option Addr):(v.at_ p q).Fit:=⟨h.brN,h.prN,h.brS,h.prS⟩
end
end Go.Ct
namespace Go.Proofs.YtpobgmdalcpomaaGreat
section
open Go.RowKit Go.Ct
variable{w:World}{D:List Nat}{b:Nat}{L:List aQ}{cs:List Int}{gen acc:Int}{pn pc:Option Addr}{cn cc:Nat}{A:Fr}
theorem Zn(w:World):Calls Tryz.prog 25 #[] w λ e w'=>∃q:Nat×Option Addr,e=.returned (.pointer (some ⟨q.1,0,none⟩))/\True /\
  SF w [] [(q.1,mO [dE,dE] [] 0 0 q.2 2 none 0)] [] [] (mW [dE,dE] [] q.2 2 none 0) w':=by
 refine enter Tryz.func25 Tryz.ntmps25 rfl rfl (SF.s0 w) ?_
 simp only[dB]
 all_goals (refine dH ?_;refine J0 ?_;refine bV ?_;refine bV ?_;refine aF (Pg (c:=2) (sz:=14) rfl (λ _=>cS rC Ei rfl rfl rfl rfl (by simp only[Bw,mJ,List.cons_append,List.nil_append];exact rfl))) (λ x3=>?_);refine bV ?_;refine bV ?_;refine bM (λ x6=>?_);refine J1 ?_)
 all_goals
 refine aR Tryz.results25 (λ w hw=>?_)
 exact⟨(x6,some ⟨x3,0,none⟩),rfl,trivial,(SF.Ic (hw.jK 52 1)).aV⟩
theorem Yq(hs:SF w D [(b,mO L cs gen acc pn cn pc cc)] A [] (mW L cs pn cn pc cc) w)(r:Int)(hr:r<1):Calls Tryz.prog 16 #[.pointer (some ⟨b,0,none⟩),.int .i64 r] w λ e w'=>∃q:Unit,e=.returned (aD L r).nd.v/\True /\
  SF w D [(b,mO L cs gen acc pn cn pc cc)] [] [] (mW L cs pn cn pc cc) w':=by
 refine enter Tryz.func16 Tryz.ntmps16 rfl rfl (xQ hs) ?_
 simp only[dB]
 all_goals (refine J0 ?_;refine aY (λ x4=>?_);refine aN ?_;refine jS ?_;refine Am ?_)
 all_goals (first|refine aG ?_|(refine aC ?_;refine aA ?_)|(refine dG 7 (λ g7=>?_) (λ g7=>?_)<;>(try (exfalso;omega))<;>(first|refine aG ?_|(refine aC ?_;refine aA ?_))))
 all_goals (refine qn ?_;refine Li ?_;refine xV ?_;refine aN ?_)
 all_goals
 refine bF (λ c16=>?_) (λ c16=>?_)
 ·try exact nv c16
  all_goals try (exfalso;omega)
  all_goals (refine J0 ?_;refine zN ?_)
  all_goals
   refine bH Tryz.results16 (λ w hw=>?_)
   exact⟨(),by rw[jC (by omega)];rfl,trivial,hw.aV⟩
 ·try exact nv c16
  all_goals try (exfalso;omega)
  all_goals (refine aZ ?_;refine wV ?_;refine J3 ?_;refine aA ?_;refine kN ?_;refine Dc ?_;refine J5 ?_)
  all_goals
   refine bH Tryz.results16 (λ w hw=>?_)
   exact⟨(),by rw[jC (by omega)];rfl,trivial,hw.aV⟩
theorem Y4(hs:SF w D [(b,mO L cs gen acc pn cn pc cc)] A [] (mW L cs pn cn pc cc) w){k:Nat}(hk:(k:Int)<9223372036854775807)(hl:L.length<=274877906944):Calls Tryz.prog 16 #[.pointer (some ⟨b,0,none⟩),.int .i64 ((k+1:Nat):Int)] w λ e w'=>∃q:Unit,e=.returned (aD L ((k+1:Nat):Int)).nd.v/\True /\
  SF w D [(b,mO L cs gen acc pn cn pc cc)] [] [] (mW L cs pn cn pc cc) w':=by
 refine enter Tryz.func16 Tryz.ntmps16 rfl rfl (xQ hs) ?_
 simp only[dB]
 all_goals (refine J0 ?_;refine aY (λ x4=>?_);refine aN ?_;refine jS ?_;refine Am ?_)
 all_goals (first|refine aG ?_|(refine aC ?_;refine aA ?_)|(refine dG 7 (λ g7=>?_) (λ g7=>?_)<;>(try (exfalso;omega))<;>(first|refine aG ?_|(refine aC ?_;refine aA ?_))))
 all_goals (refine qn ?_;refine Li ?_;refine xV ?_;refine aN ?_)
 all_goals
 refine bF (λ c16=>?_) (λ c16=>?_)
 ·try exact nv c16
  all_goals try (exfalso;omega)
  all_goals (refine J0 ?_;refine zN ?_)
  all_goals
   refine bH Tryz.results16 (λ w hw=>?_)
   first|exact⟨(),by rw[jC (by omega)];rfl,trivial,hw.aV⟩|exact⟨(),by rw[pC (by omega)];rfl,trivial,hw.aV⟩
 ·try exact nv c16
  all_goals try (exfalso;omega)
  all_goals (refine aZ ?_;refine wV ?_;refine J3 ?_;refine aA ?_;refine kN ?_;refine Dc ?_;refine J5 ?_)
  all_goals
   refine bH Tryz.results16 (λ w hw=>?_)
   first|exact⟨(),by rw[jC (by omega)];rfl,trivial,hw.aV⟩|exact⟨(),by rw[pC (by omega)];rfl,trivial,hw.aV⟩
theorem dr(hs:SF w D [(b,mO L cs gen acc pn cn pc cc)] A [] (mW L cs pn cn pc cc) w)(r:Int)(hr:r<=9223372036854775807)(hl:L.length<=274877906944):Calls Tryz.prog 16 #[.pointer (some ⟨b,0,none⟩),.int .i64 r] w λ e w'=>∃q:Unit,e=.returned (aD L r).nd.v/\True /\
  SF w D [(b,mO L cs gen acc pn cn pc cc)] [] [] (mW L cs pn cn pc cc) w':=by
 rcases Int.lt_or_le r 1 with h|h
 ·exact Yq hs r h
 ·obtain⟨k,rfl⟩:∃k:Nat,r=((k+1:Nat):Int):=⟨(r-1).toNat,by omega⟩
  exact Y4 hs (by omega) hl
end

end Go.Proofs.YtpobgmdalcpomaaGreat
