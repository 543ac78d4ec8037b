/- Nodes are compared. -/
import Derived.Test.YtbajmaoegmbfgaaGreatGAr2

set_option linter.unusedSimpArgs false
set_option linter.unusedVariables false
namespace Go.Proofs.YtbajmaoegmbfgaaGreat
section
open Go.RowKit Go.Ct
theorem S7{a b:Nd}{x1 x2:List Int}{y1 y2:List Pr}{w:World}(ha:rK w a x1 y1)(hb:rK w b x2 y2) :
  Calls Tryz.prog 113 #[a.v,b.v] w λ e w'=>∃r:Bool,e=.returned (.bool r)/\(r=true↔rP a b x1 x2 y1 y2)/\St w [] [] w':=by
 have e1:=ha.brN;have e2:=hb.brN;have e3:=ha.prN;have e4:=hb.prN
 refine enter Tryz.func113 Tryz.ntmps113 rfl rfl (SF.s0 w) ?_
 simp only[cN]
 all_goals (refine J0 ?_;refine bW (λ x2=>?_);refine bW (λ x3=>?_);refine jM ?_;refine iZ ?_;refine J3 ?_;refine pP ?_;refine aA ?_)
 all_goals ((refine fS 10 (λ g10=>?_) (λ g10=>?_)<;>(first|refine aN ?_|(refine aF ?_;refine aE ?_))))
 all_goals (refine A5 ?_;refine Sj ?_;refine aA ?_)
 all_goals (first|refine aN ?_|(refine fS 17 (λ g17=>?_) (λ g17=>?_)<;>(first|refine aN ?_|(refine aF ?_;refine aE ?_))))
 all_goals (refine A5 ?_;refine Sj ?_;refine aA ?_)
 all_goals (first|refine aN ?_|(refine fS 24 (λ g24=>?_) (λ g24=>?_)<;>(first|refine aN ?_|(refine aF ?_;refine aE ?_))))
 all_goals (refine A5 ?_;refine Sj ?_;refine aA ?_)
 all_goals (first|refine aN ?_|(refine fS 31 (λ g31=>?_) (λ g31=>?_)<;>(first|refine aN ?_|(refine aF ?_;refine aE ?_))))
 all_goals (refine A5 ?_;refine Sj ?_;refine aA ?_)
 all_goals (first|refine aN ?_|(refine fS 38 (λ g38=>?_) (λ g38=>?_)<;>(first|refine aN ?_|(refine aF ?_;refine aE ?_))))
 all_goals (refine A5 ?_;(first|refine aN ?_|(refine aF ?_;refine q9 ?_));refine cX ?_;refine aA ?_)
 all_goals (first|refine aN ?_|(refine fS 45 (λ g45=>?_) (λ g45=>?_)<;>(first|refine aN ?_|(refine aF ?_;refine aE ?_))))
 all_goals (refine A5 ?_;refine Sj ?_;refine aH ?_)
 all_goals
 refine bG (λ c51=>?_) (λ c51=>?_)
 ·all_goals refine dC ?_
  all_goals
   refine aU Tryz.results113 (λ w hw=>?_)
   exact⟨_,rfl,by simp_all[rP],hw.done⟩
 ·try exact nv c51
  all_goals (refine bD ?_;refine iZ ?_;refine J3 ?_;refine aY (cV (hc:=λ w1 hw=>by simp only[e1,e2];exact bs (ha.br.gM hw.st) (hb.br.gM hw.st) ha.brS)) (λ x56=>?_);refine aA ?_)
  all_goals ((refine fS 57 (λ g57=>?_) (λ g57=>?_)<;>(first|refine aN ?_|(refine aF ?_;refine aE ?_))))
  all_goals (refine A5 ?_;(first|refine aN ?_|(refine aF ?_;refine aY (cV (hc:=λ w1 hw=>by simp only[e3,e4];exact yf (ha.pr.gM hw.st) (hb.pr.gM hw.st) ha.prS)) (λ x62=>?_)));refine cX ?_;refine aA ?_)
  all_goals (first|refine aN ?_|(refine fS 64 (λ g64=>?_) (λ g64=>?_)<;>(first|refine aN ?_|(refine aF ?_;refine aE ?_))))
  all_goals (refine A5 ?_;refine zM ?_;refine aA ?_)
  all_goals (first|refine aN ?_|(refine fS 71 (λ g71=>?_) (λ g71=>?_)<;>(first|refine aN ?_|(refine aF ?_;refine aE ?_))))
  all_goals (refine A5 ?_;refine zM ?_;refine aA ?_)
  all_goals (first|refine aN ?_|(refine fS 78 (λ g78=>?_) (λ g78=>?_)<;>(first|refine aN ?_|(refine aF ?_;refine aE ?_))))
  all_goals (refine A5 ?_;refine zM ?_;refine aA ?_)
  all_goals (first|refine aN ?_|(refine fS 85 (λ g85=>?_) (λ g85=>?_)<;>(first|refine aN ?_|(refine aF ?_;refine aE ?_))))
  all_goals (refine A5 ?_;refine zM ?_;refine aA ?_)
  all_goals (first|refine aN ?_|(refine fS 92 (λ g92=>?_) (λ g92=>?_)<;>(first|refine aN ?_|(refine aF ?_;refine aE ?_))))
  all_goals (refine A5 ?_;refine zM ?_;refine J1 ?_)
  all_goals
   refine aU Tryz.results113 (λ w hw=>?_)
   exact⟨_,rfl,by simp_all[rP],hw.done⟩
theorem s4{a b:Nd}{x1 x2:List Int}{y1 y2:List Pr}{w:World}(ha:rK w a x1 y1)(hb:rK w b x2 y2) :
  Calls Tryz.prog 196 #[a.v,b.v] w λ e w'=>∃r:Bool,e=.returned (.bool r)/\(r=true↔rP a b x1 x2 y1 y2)/\St w [] [] w':=by
 have e1:=ha.brN;have e2:=hb.brN;have e3:=ha.prN;have e4:=hb.prN
 refine enter Tryz.func196 Tryz.ntmps196 rfl rfl (SF.s0 w) ?_
 simp only[cN]
 all_goals (refine J0 ?_;refine bW (λ x2=>?_);refine bW (λ x3=>?_);refine jM ?_;refine Wv (by dsimp only[List.append]) ?_;refine J3 ?_;refine J3 ?_;refine mY ?_;refine aA ?_)
 all_goals ((refine fS 10 (λ g10=>?_) (λ g10=>?_)<;>(first|refine aN ?_|(refine aF ?_;refine aE ?_))))
 all_goals (refine A5 ?_;refine zM ?_;refine aA ?_)
 all_goals (first|refine aN ?_|(refine fS 17 (λ g17=>?_) (λ g17=>?_)<;>(first|refine aN ?_|(refine aF ?_;refine aE ?_))))
 all_goals (refine A5 ?_;refine zM ?_;refine aA ?_)
 all_goals (first|refine aN ?_|(refine fS 24 (λ g24=>?_) (λ g24=>?_)<;>(first|refine aN ?_|(refine aF ?_;refine aE ?_))))
 all_goals (refine A5 ?_;refine zM ?_;refine aA ?_)
 all_goals (first|refine aN ?_|(refine fS 31 (λ g31=>?_) (λ g31=>?_)<;>(first|refine aN ?_|(refine aF ?_;refine aE ?_))))
 all_goals (refine A5 ?_;(first|refine aN ?_|(refine aF ?_;refine aY (cV (hc:=λ w1 hw=>by simp only[e1,e2];exact kw (ha.br.gM hw.st) (hb.br.gM hw.st) ha.brS)) (λ x36=>?_)));refine cX ?_;refine aA ?_)
 all_goals (first|refine aN ?_|(refine fS 38 (λ g38=>?_) (λ g38=>?_)<;>(first|refine aN ?_|(refine aF ?_;refine aE ?_))))
 all_goals (refine A5 ?_;refine zM ?_;refine aA ?_)
 all_goals (first|refine aN ?_|(refine fS 45 (λ g45=>?_) (λ g45=>?_)<;>(first|refine aN ?_|(refine aF ?_;refine aE ?_))))
 all_goals (refine A5 ?_;(first|refine aN ?_|(refine aF ?_;refine qz ?_));refine cX ?_;refine aA ?_)
 all_goals (first|refine aN ?_|(refine fS 52 (λ g52=>?_) (λ g52=>?_)<;>(first|refine aN ?_|(refine aF ?_;refine aE ?_))))
 all_goals (refine A5 ?_;refine zM ?_;refine aA ?_)
 all_goals (first|refine aN ?_|(refine fS 59 (λ g59=>?_) (λ g59=>?_)<;>(first|refine aN ?_|(refine aF ?_;refine aE ?_))))
 all_goals (refine A5 ?_;(first|refine aN ?_|(refine aF ?_;refine aY (cV (hc:=λ w1 hw=>by simp only[e3,e4];exact vv (ha.pr.gM hw.st) (hb.pr.gM hw.st) ha.prS)) (λ x64=>?_)));refine cX ?_;refine aA ?_)
 all_goals (first|refine aN ?_|(refine fS 66 (λ g66=>?_) (λ g66=>?_)<;>(first|refine aN ?_|(refine aF ?_;refine aE ?_))))
 all_goals (refine A5 ?_;refine zM ?_;refine aA ?_)
 all_goals (first|refine aN ?_|(refine fS 73 (λ g73=>?_) (λ g73=>?_)<;>(first|refine aN ?_|(refine aF ?_;refine aE ?_))))
 all_goals (refine A5 ?_;refine zM ?_;refine aA ?_)
 all_goals (first|refine aN ?_|(refine fS 80 (λ g80=>?_) (λ g80=>?_)<;>(first|refine aN ?_|(refine aF ?_;refine aE ?_))))
 all_goals (refine A5 ?_;refine zM ?_;refine aA ?_)
 all_goals (first|refine aN ?_|(refine fS 87 (λ g87=>?_) (λ g87=>?_)<;>(first|refine aN ?_|(refine aF ?_;refine aE ?_))))
 all_goals (refine A5 ?_;refine zM ?_;refine aA ?_)
 all_goals (first|refine aN ?_|(refine fS 94 (λ g94=>?_) (λ g94=>?_)<;>(first|refine aN ?_|(refine aF ?_;refine aE ?_))))
 all_goals (refine A5 ?_;refine zM ?_;refine J1 ?_)
 all_goals
 refine aU Tryz.results196 (λ w hw=>?_)
 exact⟨_,rfl,by simp_all[rP],hw.done⟩
theorem Q1(a:Nd)(w:World):Calls Tryz.prog 80 #[a.v] w λ e w'=>∃r:Bool,e=.returned (.bool r)/\(r=true↔(a.kind=3∨a.kind=5∨a.kind=6))/\St w [] [] w':=by
 refine enter Tryz.func80 Tryz.ntmps80 rfl rfl (SF.s0 w) ?_
 simp only[cN]
 all_goals (refine J0 ?_;refine bW (λ x1=>?_);refine jM ?_;refine iZ ?_;refine aH ?_;refine dE ?_;refine aW ?_;refine lR ?_)
 all_goals
 refine bG (λ c5=>?_) (λ c5=>?_)
 ·all_goals refine bD ?_
  all_goals
   refine bG (λ c5=>?_) (λ c5=>?_)
   ·all_goals refine dC ?_
    all_goals
    refine aU Tryz.results80 (λ w hw=>?_)
    exact⟨_,rfl,by simp_all,hw.done⟩
   ·all_goals (refine oD ?_;refine dC ?_)
    all_goals
    refine aU Tryz.results80 (λ w hw=>?_)
    exact⟨_,rfl,by simp_all,hw.done⟩
 ·all_goals refine lR ?_
  all_goals
   refine bG (λ c5=>?_) (λ c5=>?_)
   ·all_goals refine bD ?_
    all_goals
    refine bG (λ c5=>?_) (λ c5=>?_)
    ·all_goals refine dC ?_
     all_goals
      refine aU Tryz.results80 (λ w hw=>?_)
      exact⟨_,rfl,by simp_all,hw.done⟩
    ·all_goals (refine oD ?_;refine dC ?_)
     all_goals
      refine aU Tryz.results80 (λ w hw=>?_)
      exact⟨_,rfl,by simp_all,hw.done⟩
   ·all_goals (refine eR ?_;refine S2 ?_)
    all_goals
    refine bG (λ c5=>?_) (λ c5=>?_)
    ·all_goals refine dC ?_
     all_goals
      refine aU Tryz.results80 (λ w hw=>?_)
      exact⟨_,rfl,by simp_all,hw.done⟩
    ·all_goals (refine oD ?_;refine dC ?_)
     all_goals
      refine aU Tryz.results80 (λ w hw=>?_)
      exact⟨_,rfl,by simp_all,hw.done⟩
theorem Wy(a:Nd)(w:World):Calls Tryz.prog 41 #[a.v] w λ e w'=>∃r:Bool,e=.returned (.bool r)/\(r=true↔(a.kind=3∨a.kind=5∨a.kind=6))/\St w [] [] w':=by
 refine enter Tryz.func41 Tryz.ntmps41 rfl rfl (SF.s0 w) ?_
 simp only[cN]
 all_goals (refine J0 ?_;refine bW (λ x1=>?_);refine J1 ?_;refine iZ ?_;refine mY ?_;refine aA ?_)
 all_goals ((refine fS 6 (λ g6=>?_) (λ g6=>?_)<;>(first|refine aN ?_|(refine aF ?_;refine aE ?_))))
 all_goals (refine vj ?_;refine aA ?_)
 all_goals (first|refine aN ?_|(refine fS 11 (λ g11=>?_) (λ g11=>?_)<;>(first|refine aN ?_|(refine aF ?_;refine aE ?_))))
 all_goals (refine vj ?_;refine J1 ?_)
 all_goals
 refine aU Tryz.results41 (λ w hw=>?_)
 exact⟨_,rfl,by simp_all,hw.done⟩
end

/- Loops over slices that are read: contracts, the second part. -/
section
open Go.RowKit Go.Ct
theorem Q3{xs:List Int}{a:Option Addr}{ca:Nat}{w:World}(ha:Cl w a (aG xs))(hx:xs.length<4611686018427387904) :
  Calls Tryz.prog 199 #[.slice a xs.length ca] w λ e w'=>∃r:Bool,e=.returned (.bool r)/\(r=true↔Pos xs)/\St w [] [] w':=by
 refine enter Tryz.func199 Tryz.ntmps199 rfl rfl (SF.s1 ha) ?_
 simp only[cN]
 all_goals (refine dC ?_;refine lW ?_;refine eH ?_;refine B5 ?_;refine dE ?_)
 all_goals
 refine fZ [2,4,7,8,9,10,11,12,13] (λ k=>[(7,.int .i64 ((k:Nat):Int))]) (λ k=>k<=xs.length/\∀i,i<k->1<=xs.getD i 0) (λ k=>xs.length-k) (0) (⟨Nat.zero_le _,λ i hi=>absurd hi (Nat.not_lt_zero i)⟩) ?_ (λ k f hx=>?_)
 ·repeat (first|exact bK _|refine bC (by first|exact rfl|(conv=>{lhs;whnf};simp;done)) ?_)
 dsimp only[iL,List.map,List.cons_append,List.nil_append]
 all_goals (refine J0 ?_;refine yQ ?_;refine aW ?_)
 all_goals
  refine bG (λ c8=>?_) (λ c8=>?_)
  ·all_goals (refine qD ?_;refine J0 ?_;refine S9 ?_;refine J1 ?_;refine J2 ?_;refine yQ ?_)
   all_goals
   refine bG (λ c12=>?_) (λ c12=>?_)
   ·all_goals refine dC ?_
    all_goals
     refine aU Tryz.results199 (λ w hw=>?_)
     exact⟨_,rfl,by simp only[Bool.false_eq_true,false_iff];intro h;have:=h k (by omega);omega,hw.done⟩
   ·all_goals (refine oD ?_;refine Ss ?_;refine B5 ?_)
    all_goals
     refine eU (k+1) ?_ ?_ ?_
     ·first|omega|(simp only[];omega)
     ·repeat' (first|exact bK _|refine bC ?_ ?_)
      all_goals (first|exact rfl|(conv=>{lhs;whnf};simp;done)|(conv=>{lhs;whnf};congr 1;omega))
     ·exact⟨by omega,λ i hi=>by rcases Nat.lt_succ_iff_lt_or_eq.1 hi with h|rfl;exact hx.2 i h;omega⟩
  ·all_goals (refine bV rfl ?_;refine dC ?_)
   all_goals
   refine aU Tryz.results199 (λ w hw=>?_)
   exact⟨_,rfl,by simp only[true_iff];intro i hi;exact hx.2 i (by omega),hw.done⟩
theorem Pf{l:List Pr}{a:Option Addr}{ca:Nat}{w:World}(ha:Cl w a (dW l))(hx:l.length<4611686018427387904) :
  Calls Tryz.prog 200 #[.slice a l.length ca] w λ e w'=>∃r:Bool,e=.returned (.bool r)/\(r=true↔Gr l)/\St w [] [] w':=by
 refine enter Tryz.func200 Tryz.ntmps200 rfl rfl (SF.s1 ha) ?_
 simp only[cN]
 all_goals (refine dC ?_;refine lW ?_;refine eH ?_;refine B5 ?_;refine dE ?_)
 all_goals
 refine fZ [2,4,7,8,9,10,11,12,13,14,15] (λ k=>[(7,.int .i64 ((k:Nat):Int))]) (λ k=>k<=l.length/\∀i,i<k->(l.getD i (⟨#[]⟩,0)).1.size<=64) (λ k=>l.length-k) (0) (⟨Nat.zero_le _,λ i hi=>absurd hi (Nat.not_lt_zero i)⟩) ?_ (λ k f hx=>?_)
 ·repeat (first|exact bK _|refine bC (by first|exact rfl|(conv=>{lhs;whnf};simp;done)) ?_)
 dsimp only[iL,List.map,List.cons_append,List.nil_append]
 all_goals (refine J0 ?_;refine yQ ?_;refine aW ?_)
 all_goals
  refine bG (λ c8=>?_) (λ c8=>?_)
  ·all_goals (refine qD ?_;refine J0 ?_;refine S9 ?_;refine aJ (λ x4=>?_);refine J5 ?_;refine iZ ?_;refine mL ?_;refine zP ?_;refine aH ?_)
   all_goals
   refine bG (λ c14=>?_) (λ c14=>?_)
   ·all_goals refine dC ?_
    all_goals
     refine aU Tryz.results200 (λ w hw=>?_)
     exact⟨_,rfl,by simp only[Bool.false_eq_true,false_iff];intro h;have:=h k (by omega);omega,hw.done⟩
   ·all_goals (refine oD ?_;refine Ss ?_;refine B5 ?_)
    all_goals
     refine eU (k+1) ?_ ?_ ?_
     ·first|omega|(simp only[];omega)
     ·repeat' (first|exact bK _|refine bC ?_ ?_)
      all_goals (first|exact rfl|(conv=>{lhs;whnf};simp;done)|(conv=>{lhs;whnf};congr 1;omega))
     ·exact⟨by omega,λ i hi=>by rcases Nat.lt_succ_iff_lt_or_eq.1 hi with h|rfl;exact hx.2 i h;omega⟩
  ·all_goals (refine bV rfl ?_;refine dC ?_)
   all_goals
   refine aU Tryz.results200 (λ w hw=>?_)
   exact⟨_,rfl,by simp only[true_iff];intro i hi;exact hx.2 i (by omega),hw.done⟩
theorem X6{l:List Pr}{a:Option Addr}{ca:Nat}{w:World}(ha:Cl w a (dW l))(hx:l.length<4611686018427387904) :
  Calls Tryz.prog 171 #[.slice a l.length ca] w λ e w'=>∃r:Bool,e=.returned (.bool r)/\(r=true↔Gr l)/\St w [] [] w':=by
 refine enter Tryz.func171 Tryz.ntmps171 rfl rfl (SF.s1 ha) ?_
 simp only[cN]
 all_goals (refine H5 ?_;refine Hu ?_)
 all_goals
 refine fZ [2,3,4,5,6,7,8,9,10,11,12,13,14,15,16] (λ k=>[(3,.int .i64 ((k:Nat):Int))]) (λ k=>k<=l.length/\∀i,i<k->(l.getD i (⟨#[]⟩,0)).1.size<=64) (λ k=>l.length-k) (0) (⟨Nat.zero_le _,λ i hi=>absurd hi (Nat.not_lt_zero i)⟩) ?_ (λ k f hx=>?_)
 ·repeat (first|exact bK _|refine bC (by first|exact rfl|(conv=>{lhs;whnf};simp;done)) ?_)
 dsimp only[iL,List.map,List.cons_append,List.nil_append]
 all_goals (refine Dz ?_;refine eH ?_;refine yQ ?_)
 all_goals
  refine bG (λ c7=>?_) (λ c7=>?_)
  ·all_goals (refine qD ?_;refine jN ?_;refine hX ?_;refine J3 ?_;refine mL ?_;refine zP ?_;refine aH ?_)
   all_goals
   refine bG (λ c16=>?_) (λ c16=>?_)
   ·all_goals refine dC ?_
    all_goals
     refine aU Tryz.results171 (λ w hw=>?_)
     exact⟨_,rfl,by simp only[Bool.false_eq_true,false_iff];intro h;have:=h k (by omega);omega,hw.done⟩
   ·all_goals (refine oD ?_;refine zL ?_)
    all_goals
     refine eU (k+1) ?_ ?_ ?_
     ·first|omega|(simp only[];omega)
     ·repeat' (first|exact bK _|refine bC ?_ ?_)
      all_goals (first|exact rfl|(conv=>{lhs;whnf};simp;done)|(conv=>{lhs;whnf};congr 1;omega))
     ·exact⟨by omega,λ i hi=>by rcases Nat.lt_succ_iff_lt_or_eq.1 hi with h|rfl;exact hx.2 i h;omega⟩
  ·all_goals (refine bV rfl ?_;refine dC ?_)
   all_goals
   refine aU Tryz.results171 (λ w hw=>?_)
   exact⟨_,rfl,by simp only[true_iff];intro i hi;exact hx.2 i (by omega),hw.done⟩
theorem Vk{l:List Pr}{a:Option Addr}{ca:Nat}{w:World}(ha:Cl w a (dW l))(hx:l.length<4611686018427387904) :
  Calls Tryz.prog 193 #[.slice a l.length ca] w λ e w'=>∃r:Bool,e=.returned (.bool r)/\(r=true↔qx l)/\St w [] [] w':=by
 refine enter Tryz.func193 Tryz.ntmps193 rfl rfl (SF.s1 ha) ?_
 simp only[cN]
 all_goals (refine H5 ?_;refine Hu ?_)
 all_goals
 refine fZ [2,3,4,5,6,7,8,9,10,11,12,13,14,15,16,17,18,19,20,21] (λ k=>[(3,.int .i64 ((k:Nat):Int))]) (λ k=>1<=k/\k<=l.length+1/\∀i,1<=i->i<k->eG (l.getD (i-1) (⟨#[]⟩,0)).1 (l.getD i (⟨#[]⟩,0)).1=true) (λ k=>l.length-k) (1) (⟨Nat.le_refl _,by omega,λ i h1 hi=>by omega⟩) ?_ (λ k f hx=>?_)
 ·repeat (first|exact bK _|refine bC (by first|exact rfl|(conv=>{lhs;whnf};simp;done)) ?_)
 dsimp only[iL,List.map,List.cons_append,List.nil_append]
 all_goals (refine Dz ?_;refine eH ?_;refine yQ ?_)
 all_goals
  refine bG (λ c7=>?_) (λ c7=>?_)
  ·all_goals (refine qD ?_;refine aW ?_;refine fL [0,1,2,3,4,5,6,7,8,9,10,11] ?_;refine iP ?_;refine uZ ?_;refine jB ?_;refine nA ?_;refine iP ?_;refine jB ?_;refine nA ?_;refine eh ?_;refine eC ?_)
   all_goals
   refine bG (λ c21=>?_) (λ c21=>?_)
   ·all_goals refine dC ?_
    all_goals
     refine aU Tryz.results193 (λ w hw=>?_)
     exact⟨_,rfl,by simp only[Bool.false_eq_true,false_iff];intro h;have:=h k (by omega) (by omega);rw[c21] at this;exact Bool.noConfusion this,hw.done⟩
   ·all_goals (refine oD ?_;refine zL ?_)
    all_goals
     refine eU (k+1) ?_ ?_ ?_
     ·first|omega|(simp only[];omega)
     ·repeat' (first|exact bK _|refine bC ?_ ?_)
      all_goals (first|exact rfl|(conv=>{lhs;whnf};simp;done)|(conv=>{lhs;whnf};congr 1;omega))
     ·exact⟨by omega,by omega,λ i h1 hi=>by rcases Nat.lt_succ_iff_lt_or_eq.1 hi with h|rfl;exact hx.2.2 i h1 h;exact c21⟩
  ·all_goals (refine bV rfl ?_;refine dC ?_)
   all_goals
   refine aU Tryz.results193 (λ w hw=>?_)
   exact⟨_,rfl,by simp only[true_iff];intro i h1 hi;exact hx.2.2 i h1 (by omega),hw.done⟩
theorem mK{l:List Pr}{a:Option Addr}{ca:Nat}{w:World}(ha:Cl w a (dW l))(hx:l.length<4611686018427387904) :
  Calls Tryz.prog 109 #[.slice a l.length ca] w λ e w'=>∃r:Bool,e=.returned (.bool r)/\(r=true↔qx l)/\St w [] [] w':=by
 refine enter Tryz.func109 Tryz.ntmps109 rfl rfl (SF.s1 ha) ?_
 simp only[cN]
 all_goals (refine H5 ?_;refine Hu ?_)
 all_goals
 refine fZ [2,3,4,5,6,7,8,9,10,11,12,13,14,15,16,17,18,19,20,21] (λ k=>[(3,.int .i64 ((k:Nat):Int))]) (λ k=>1<=k/\k<=l.length+1/\∀i,1<=i->i<k->eG (l.getD (i-1) (⟨#[]⟩,0)).1 (l.getD i (⟨#[]⟩,0)).1=true) (λ k=>l.length-k) (1) (⟨Nat.le_refl _,by omega,λ i h1 hi=>by omega⟩) ?_ (λ k f hx=>?_)
 ·repeat (first|exact bK _|refine bC (by first|exact rfl|(conv=>{lhs;whnf};simp;done)) ?_)
 dsimp only[iL,List.map,List.cons_append,List.nil_append]
 all_goals (refine Dz ?_;refine eH ?_;refine yQ ?_)
 all_goals
  refine bG (λ c7=>?_) (λ c7=>?_)
  ·all_goals (refine qD ?_;refine aW ?_;refine fL [0,1,2,3,4,5,6,7,8,9,10,11] ?_;refine iP ?_;refine jB ?_;refine nA ?_;refine iP ?_;refine uZ ?_;refine jB ?_;refine nA ?_;refine fg ?_;refine eC ?_)
   all_goals
   refine bG (λ c21=>?_) (λ c21=>?_)
   ·all_goals refine dC ?_
    all_goals
     refine aU Tryz.results109 (λ w hw=>?_)
     exact⟨_,rfl,by simp only[Bool.false_eq_true,false_iff];intro h;have:=h k (by omega) (by omega);rw[ye c21] at this;exact Bool.noConfusion this,hw.done⟩
   ·all_goals (refine oD ?_;refine zL ?_)
    all_goals
     refine eU (k+1) ?_ ?_ ?_
     ·first|omega|(simp only[];omega)
     ·repeat' (first|exact bK _|refine bC ?_ ?_)
      all_goals (first|exact rfl|(conv=>{lhs;whnf};simp;done)|(conv=>{lhs;whnf};congr 1;omega))
     ·exact⟨by omega,by omega,λ i h1 hi=>by rcases Nat.lt_succ_iff_lt_or_eq.1 hi with h|rfl;exact hx.2.2 i h1 h;exact zs c21⟩
  ·all_goals (refine bV rfl ?_;refine dC ?_)
   all_goals
   refine aU Tryz.results109 (λ w hw=>?_)
   exact⟨_,rfl,by simp only[true_iff];intro i h1 hi;exact hx.2.2 i h1 (by omega),hw.done⟩
end

/- Nodes are made; lists are copied. -/
section
open Go.RowKit Go.Ct
theorem X2(o:Int)(w:World):Calls Tryz.prog 202 #[.int .i64 o] w λ e w'=>e=.returned ({Nd.zero with kind:=7,bF:=o}:Nd).v/\St w [] [] w':=by
 refine enter Tryz.func202 Tryz.ntmps202 rfl rfl (SF.s0 w) ?_
 simp only[cN]
 all_goals (refine J0 ?_;refine aJ (λ x2=>?_);refine aH ?_;refine J2 ?_;refine wJ ?_)
 all_goals
 refine bE Tryz.results202 (λ w hw=>?_)
 exact⟨rfl,hw.done⟩
theorem Y4(o x n:Int)(w:World):Calls Tryz.prog 136 #[.int .i64 o,.int .i64 x,.int .i64 n] w λ e w'=>e=.returned ({Nd.zero with kind:=8,bF:=o,exp:=x,new:=n}:Nd).v/\St w [] [] w':=by
 refine enter Tryz.func136 Tryz.ntmps136 rfl rfl (SF.s0 w) ?_
 simp only[cN]
 all_goals (refine J0 ?_;refine aJ (λ x6=>?_);refine aH ?_;refine jN ?_;refine aA ?_;refine wJ ?_)
 all_goals
 refine bE Tryz.results136 (λ w hw=>?_)
 exact⟨rfl,hw.done⟩
theorem SF.frz{w w':World}{F:Fr}{o:Ow}(h:SF w [] [] [] F [o] w'):SF w [] [] [] ((o.p,o.cs)::F) [] w':=h.freeze .head (by simp)
theorem SF.aAK{w w':World}{F:Fr}{o o2:Ow}(h:SF w [] [] [] F [o,o2] w'):SF w [] [] [] ((o2.p,o2.cs)::(o.p,o.cs)::F) [] w':=(h.freeze .head (by simp)).freeze .head (by simp)
theorem Qn:wT Tryz.prog 164 24=true:=by kernel_rfl
theorem Vv:wT Tryz.prog 37 8=true:=by kernel_rfl
theorem Wc{l:List Pr}{a:Option Addr}{c:Nat}{w:World}(ha:Cl w a (dW l))(hl:l.length<=11728124029610):Calls Tryz.prog 124 #[.slice a l.length c] w λ e w' =>
  ∃p:Option Addr,e=.returned (.slice p l.length l.length)/\(l=[]->p=none)/\SF w [] [] [] [] [⟨p,dW l,l.length,164,2⟩] w':=by
 refine enter Tryz.func124 Tryz.ntmps124 rfl rfl (SF.s1 ha) ?_
 simp only[cN]
 all_goals (refine dC ?_;refine lW ?_;refine eH ?_;refine uS ?_)
 all_goals
 refine bG (λ c6=>?_) (λ c6=>?_)
 ·all_goals
   have hl0:l=[]:=List.eq_nil_of_length_eq_zero (by omega)
   subst hl0
  all_goals refine dC ?_
  all_goals
   refine aU Tryz.results124 (λ w hw=>?_)
   exact⟨none,rfl,λ _=>rfl,(hw.mQ 164 2).aS⟩
 ·all_goals (refine bD ?_;refine J2 ?_;refine eH ?_;refine aY (ep rf rf yg Qn om om) (λ x9=>?_);refine xT ?_;refine X9 (λ x12=>?_);refine aH ?_;refine J2 ?_;refine J1 ?_)
  all_goals
   refine aU Tryz.results124 (λ w hw=>?_)
   exact⟨some ⟨x9,0,none⟩,rfl,λ h=>absurd (congrArg List.length h) (by simpa using c6),by simpa using hw.aS (H':=[]) (F':=[])⟩
theorem Wn{l:List Int}{a:Option Addr}{c:Nat}{w:World}(ha:Cl w a (aG l))(hl:l.length<=35184372088832):Calls Tryz.prog 123 #[.slice a l.length c] w λ e w' =>
  ∃p:Option Addr,e=.returned (.slice p l.length l.length)/\(l=[]->p=none)/\SF w [] [] [] [] [⟨p,aG l,l.length,37,1⟩] w':=by
 refine enter Tryz.func123 Tryz.ntmps123 rfl rfl (SF.s1 ha) ?_
 simp only[cN]
 all_goals (refine dC ?_;refine lW ?_;refine eH ?_;refine uS ?_)
 all_goals
 refine bG (λ c6=>?_) (λ c6=>?_)
 ·all_goals
   have hl0:l=[]:=List.eq_nil_of_length_eq_zero (by omega)
   subst hl0
  all_goals refine dC ?_
  all_goals
   refine aU Tryz.results123 (λ w hw=>?_)
   exact⟨none,rfl,λ _=>rfl,(hw.mQ 37 1).aS⟩
 ·all_goals (refine bD ?_;refine J2 ?_;refine eH ?_;refine aY (dr rf rf jf Vv om om) (λ x9=>?_);refine xT ?_;refine X9 (λ x12=>?_);refine aH ?_;refine J2 ?_;refine J1 ?_)
  all_goals
   refine aU Tryz.results123 (λ w hw=>?_)
   exact⟨some ⟨x9,0,none⟩,rfl,λ h=>absurd (congrArg List.length h) (by simpa using c6),by simpa using hw.aS (H':=[]) (F':=[])⟩
theorem Sv{n:Nd}{xs:List Int}{ys:List Pr}{w:World}(hr:rK w n xs ys)(h1:xs.length<=35184372088832)(h2:ys.length<=11728124029610):Calls Tryz.prog 78 #[n.v] w λ e w' =>
  ∃p:Option Addr×Option Addr,e=.returned ({n with brA:=p.1,brC:=xs.length,prA:=p.2,dW:=ys.length}:Nd).v/\((xs=[]->p.1=none)/\(ys=[]->p.2=none))/\SF w [] [] [] [] [⟨p.2,dW ys,ys.length,164,2⟩,⟨p.1,aG xs,xs.length,37,1⟩] w':=by
 have e1:=hr.brN;have e2:=hr.prN
 refine enter Tryz.func78 Tryz.ntmps78 rfl rfl (SF.s2 hr.br hr.pr) ?_
 simp only[cN]
 simp only[Nd.v,Nd.cells]
 all_goals (refine J0 ?_;refine bW (λ x1=>?_);refine aJ (λ x2=>?_);refine aH ?_;refine iZ ?_;refine aC (P8 (Hc:=λ _=>[]) (Fc:=λ _=>[]) (hc:=λ w1 hw=>by rw[e1];exact Wn (hw.cl fin) h1)) (λ x5 h5=>?_);refine qB ?_;refine iZ ?_;refine aC (P8 (Hc:=λ _=>[]) (Fc:=λ _=>[]) (hc:=λ w1 hw=>by rw[e2];exact Wc (hw.cl fin) h2)) (λ x9 h9=>?_);refine qB ?_;refine qF ?_;refine J5 ?_)
 all_goals
 refine bE Tryz.results78 (λ w hw=>?_)
 exact⟨(x5,x9),by rw[e1,e2];rfl,⟨h5,h9⟩,hw.aS⟩
theorem U8{n:Nd}{xs:List Int}{ys:List Pr}{w:World}(hr:rK w n xs ys)(h1:xs.length<=35184372088832)(h2:ys.length<=11728124029610):Calls Tryz.prog 78 #[n.v] w λ e w' =>
  ∃p:Option Addr×Option Addr,e=.returned ({n with brA:=p.1,brC:=xs.length,prA:=p.2,dW:=ys.length}:Nd).v/\((xs=[]->p.1=none)/\(ys=[]->p.2=none))/\SF w [] [] [] [(p.1,aG xs),(p.2,dW ys)] [] w':=(Sv hr h1 h2).mono λ _ _ ⟨p,he,hp,hs⟩=>⟨p,he,hp,SF.aAK hs⟩
end

/- Nodes of memories: New, Node, Alloc. -/
end Go.Proofs.YtbajmaoegmbfgaaGreat
namespace Go.Ct
section
def fW:aX:=⟨{Nd.zero with kind:=1},[],[]⟩
def aD(L:List aX)(r:Int):aX:=if 1<=r/\r<=L.length then L.getD (r-1).toNat aX.zero else aX.zero
theorem sB{L:List aX}{r:Int}(h:¬(1<=r/\r<=L.length)):aD L r=aX.zero:=if_neg h
theorem uU{L:List aX}{k:Nat}(h:k<L.length):aD L ((k+1:Nat):Int)=L.getD k aX.zero:=by
 unfold aD
 rw[if_pos (by omega),show(((k+1:Nat):Int)-1).toNat=k by omega]
def dG(L:List aX):List aX:=fW::fW::L
theorem gE(L:List aX):(dG L).length=L.length+2:=rfl
theorem Mt:fW.Fit:=⟨rfl,rfl,by decide,by decide⟩
theorem Fits.all{L:List aX}(h:Fits L):Fits (dG L):=λ v hv=>by
 simp only[dG,List.mem_cons] at hv
 rcases hv with rfl|rfl|hv
 ·exact Mt
 ·exact Mt
 ·exact h v hv
theorem Wa{L:List aX}(h:Fits L)(r:Int):(aD L r).Fit:=by
 unfold aD
 split
 ·rename_i hr
  exact h.at (by omega)
 ·exact Mn
structure AX where
 pn:Option Addr
 cn:Nat
 pc:Option Addr
 cc:Nat
 b1:Option Addr
 c1:Nat
 b2:Option Addr
 c2:Nat
def cY(k:Int)(cs:List Int)(init:Int):List Int:=if k=2∨k=3∨k=5∨k=6∨k=8 then cs++[init] else cs
def gI(n:Nd)(xs:List Int)(ys:List Pr)(c:Nat)(x:AX):aX :=
 aX.mk {n with main:=if n.kind=2 then((c+1:Nat):Int) else 0,prev:=if n.kind=3∨n.kind=5∨n.kind=6 then((c+1:Nat):Int) else 0,status:=if n.kind=8 then((c+1:Nat):Int) else 0,brA:=x.b1,brN:=xs.length,brC:=x.c1,prA:=x.b2,prN:=ys.length,dW:=x.c2} xs ys
theorem lU{k:Int}{cs:List Int}{init:Int}:cs.length<=(cY k cs init).length/\(cY k cs init).length<=cs.length+1:=by unfold cY;split<;>simp
theorem Lt{n:Nd}{xs:List Int}{ys:List Pr}{c:Nat}{x:AX}(h1:xs.length<=35184372088832)(h2:ys.length<=11728124029610):(gI n xs ys c x).Fit:=⟨rfl,rfl,h1,h2⟩
def aX.at_(v:aX)(p q:Option Addr):aX:=⟨{v.nd with brA:=p,brC:=v.xs.length,prA:=q,dW:=v.ys.length},v.xs,v.ys⟩
theorem aX.dk{v:aX}(h:v.Fit)(p q:Option Addr):(v.at_ p q).Fit:=⟨h.brN,h.prN,h.brS,h.prS⟩
end
end Go.Ct
namespace Go.Proofs.YtbajmaoegmbfgaaGreat
section
open Go.RowKit Go.Ct
variable{w:World}{D:List Nat}{b:Nat}{L:List aX}{cs:List Int}{gen acc:Int}{pn pc:Option Addr}{cn cc:Nat}{A:Fr}
theorem bc(w:World):Calls Tryz.prog 64 #[] w λ e w'=>∃q:Nat×Option Addr,e=.returned (.pointer (some ⟨q.1,0,none⟩))/\True /\
  SF w [] [(q.1,mO [fW,fW] [] 0 0 q.2 2 none 0)] [] [] (mW [fW,fW] [] q.2 2 none 0) w':=by
 refine enter Tryz.func64 Tryz.ntmps64 rfl rfl (SF.s0 w) ?_
 simp only[cN]
 all_goals (refine dC ?_;refine J0 ?_;refine bO ?_;refine bO ?_;refine aY (R4 (c:=2) (sz:=14) rfl (λ _=>cZ rV It rfl rfl rfl rfl (by simp only[Cz,nM,List.cons_append,List.nil_append];exact rfl))) (λ x3=>?_);refine bO ?_;refine bO ?_;refine bW (λ x6=>?_);refine J1 ?_)
 all_goals
 refine aU Tryz.results64 (λ w hw=>?_)
 exact⟨(x6,some ⟨x3,0,none⟩),rfl,trivial,(SF.Zq (hw.mQ 37 1)).aS⟩
theorem Yv(hs:SF w D [(b,mO L cs gen acc pn cn pc cc)] A [] (mW L cs pn cn pc cc) w)(r:Int)(hr:r<1):Calls Tryz.prog 25 #[.pointer (some ⟨b,0,none⟩),.int .i64 r] w λ e w'=>∃q:Unit,e=.returned (aD L r).nd.v/\True /\
  SF w D [(b,mO L cs gen acc pn cn pc cc)] [] [] (mW L cs pn cn pc cc) w':=by
 refine enter Tryz.func25 Tryz.ntmps25 rfl rfl (yE hs) ?_
 simp only[cN]
 all_goals (refine J0 ?_;refine aJ (λ x4=>?_);refine aH ?_;refine lW ?_;refine Ju ?_)
 all_goals ((refine fS 7 (λ g7=>?_) (λ g7=>?_)<;>(try (exfalso;omega))<;>(refine aN ?_)))
 all_goals (refine vq ?_;refine je ?_;refine I3 ?_;refine aH ?_)
 all_goals
 refine bG (λ c16=>?_) (λ c16=>?_)
 ·all_goals try (exfalso;omega)
  all_goals (refine J0 ?_;refine wJ ?_)
  all_goals
   refine bE Tryz.results25 (λ w hw=>?_)
   exact⟨(),by rw[sB (by omega)];rfl,trivial,hw.aS⟩
 ·exact nv c16
theorem Zv(hs:SF w D [(b,mO L cs gen acc pn cn pc cc)] A [] (mW L cs pn cn pc cc) w){k:Nat}(hk:(k:Int)<9223372036854775807)(hl:L.length<=274877906944):Calls Tryz.prog 25 #[.pointer (some ⟨b,0,none⟩),.int .i64 ((k+1:Nat):Int)] w λ e w'=>∃q:Unit,e=.returned (aD L ((k+1:Nat):Int)).nd.v/\True /\
  SF w D [(b,mO L cs gen acc pn cn pc cc)] [] [] (mW L cs pn cn pc cc) w':=by
 refine enter Tryz.func25 Tryz.ntmps25 rfl rfl (yE hs) ?_
 simp only[cN]
 all_goals (refine J0 ?_;refine aJ (λ x4=>?_);refine aH ?_;refine lW ?_;refine Ju ?_)
 all_goals ((refine aF ?_;refine aA ?_))
 all_goals (refine vq ?_;refine je ?_;refine I3 ?_;refine aH ?_)
 all_goals
 refine bG (λ c16=>?_) (λ c16=>?_)
 ·all_goals try (exfalso;omega)
  all_goals (refine J0 ?_;refine wJ ?_)
  all_goals
   refine bE Tryz.results25 (λ w hw=>?_)
   first|exact⟨(),by rw[sB (by omega)];rfl,trivial,hw.aS⟩|exact⟨(),by rw[uU (by omega)];rfl,trivial,hw.aS⟩
 ·all_goals try (exfalso;omega)
  all_goals (refine bD ?_;refine Bt ?_;refine J3 ?_;refine aA ?_;refine rS ?_;refine S9 ?_;refine J5 ?_)
  all_goals
   refine bE Tryz.results25 (λ w hw=>?_)
   first|exact⟨(),by rw[sB (by omega)];rfl,trivial,hw.aS⟩|exact⟨(),by rw[uU (by omega)];rfl,trivial,hw.aS⟩
theorem mb(hs:SF w D [(b,mO L cs gen acc pn cn pc cc)] A [] (mW L cs pn cn pc cc) w)(r:Int)(hr:r<=9223372036854775807)(hl:L.length<=274877906944):Calls Tryz.prog 25 #[.pointer (some ⟨b,0,none⟩),.int .i64 r] w λ e w'=>∃q:Unit,e=.returned (aD L r).nd.v/\True /\
  SF w D [(b,mO L cs gen acc pn cn pc cc)] [] [] (mW L cs pn cn pc cc) w':=by
 rcases Int.lt_or_le r 1 with h|h
 ·exact Yv hs r h
 ·obtain⟨k,rfl⟩:∃k:Nat,r=((k+1:Nat):Int):=⟨(r-1).toNat,by omega⟩
  exact Zv hs (by omega) hl
end

end Go.Proofs.YtbajmaoegmbfgaaGreat
