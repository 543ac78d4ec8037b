/- Loops over slices that are read: contracts. -/
import Derived.Test.YtbajmaoegmbfgaaGreatGMem
import Derived.Test.YtbajmaoegmbfgaaGreatAuto

set_option linter.unusedSimpArgs false
set_option linter.unusedVariables false
namespace Go.Proofs.YtbajmaoegmbfgaaGreat
section
open Go.RowKit Go.Ct
theorem Dw{α} [BEq α] [LawfulBEq α] {xs ys:List α}{k:Nat}(h:xs.length=ys.length)(hk:¬k<xs.length)(ht:xs.take k=ys.take k):(xs==ys)=true:=by
 rw[List.take_of_length_le (by omega),List.take_of_length_le (by omega)] at ht
 simp[ht]
theorem Io{α} [BEq α] [LawfulBEq α] {xs ys:List α}(h:xs.length≠ys.length):(xs==ys)=false:=by
 simp only[beq_eq_false_iff_ne,ne_eq]
 intro e;rw[e] at h;exact h rfl
theorem Fy{α} [BEq α] [LawfulBEq α] {xs ys:List α}{k:Nat}{d:α}(h:xs.getD k d≠ys.getD k d):(xs==ys)=false:=by
 simp only[beq_eq_false_iff_ne,ne_eq]
 intro e;rw[e] at h;exact h rfl
theorem De{α} [DecidableEq α] {xs ys:List α}{k:Nat}(h:xs.length=ys.length)(hk:¬k<xs.length)(ht:xs.take k=ys.take k):decide (xs=ys)=true:=by
 rw[List.take_of_length_le (by omega),List.take_of_length_le (by omega)] at ht
 simp[ht]
theorem It{α} [DecidableEq α] {xs ys:List α}(h:xs.length≠ys.length):decide (xs=ys)=false:=decide_eq_false λ e=>h (by rw[e])
theorem Hy{α} [DecidableEq α] {xs ys:List α}{k:Nat}{d:α}(h:xs.getD k d≠ys.getD k d):decide (xs=ys)=false:=decide_eq_false λ e=>h (by rw[e])
theorem xX{α}{xs ys:List α}{k:Nat}{d:α}(h:xs.take k=ys.take k)(hk:k<xs.length)(hl:xs.length=ys.length)(he:xs.getD k d=ys.getD k d):xs.take (k+1)=ys.take (k+1):=by
 rw[List.take_add_one,List.take_add_one,h,List.getElem?_eq_getElem hk,List.getElem?_eq_getElem (hl▸hk)]
 simp only[List.getD,List.getElem?_eq_getElem hk,List.getElem?_eq_getElem (hl▸hk:k<ys.length),Option.getD_some] at he
 rw[he]
theorem aAw{xs ys:List Int}{a b:Option Addr}{ca cb:Nat}{w:World}(ha:Cl w a (aH xs))(hb:Cl w b (aH ys))(hx:xs.length<4611686018427387904) :
  Calls Tryz.prog 112 #[.slice a xs.length ca,.slice b ys.length cb] w λ e w'=>e=.returned (.bool (xs==ys))/\St w [] [] w':=by
 refine enter Tryz.func112 Tryz.ntmps112 rfl rfl (SF.s2 ha hb) ?_
 simp only[cA]
 refine Kb3 ?_;refine eA ?_;refine aA ?_;refine eA ?_;refine Kc6 ?_
 refine bD (λ c10=>?_) (λ c10=>?_)
 ·refine cS ?_
  refine aQ Tryz.results112 (λ w hw=>?_)
  exact⟨by rw[Io (by omega)];rfl,hw.done⟩
 ·refine kO ?_;refine Ea ?_
  refine iL [4,5,11,12,13,14,15,16,17,18,19,20,21,22,23,24,25] (λ k=>[(5,.int .i64 ((k:Nat):Int))]) (λ k=>k<=xs.length/\xs.take k=ys.take k) (λ k=>xs.length-k) (0) (⟨Nat.zero_le _,by simp⟩) ?_ (λ k f hx=>?_)
  ·repeat (first|exact bJ _|refine bF (by exact rfl) ?_)
  dsimp only[hX,List.map,List.cons_append,List.nil_append]
  refine Db ?_;refine eA ?_;refine Bv ?_
  refine bD (λ c14=>?_) (λ c14=>?_)
  ·refine rR ?_;refine aS ?_;refine gS [0,1,2,3,4,5,6,7,8] ?_;refine iF ?_;refine S7 ?_;refine iF ?_;refine S7 ?_;refine a7 ?_;refine eU ?_
   refine bD (λ c25=>?_) (λ c25=>?_)
   ·refine cS ?_
    refine aQ Tryz.results112 (λ w hw=>?_)
    exact⟨by rw[Fy c25];rfl,hw.done⟩
   ·refine Kc2 ?_
    refine fL (k+1) ?_ ?_ ?_
    ·omega
    ·repeat' (first|exact bJ _|refine bF ?_ ?_)
     exact rfl
    ·exact⟨by omega,xX hx.2 (by omega) (by omega) c25⟩
  ·refine bR rfl ?_;refine cS ?_
   refine aQ Tryz.results112 (λ w hw=>?_)
   exact⟨by rw[Dw (k:=k) (by omega) (by omega) hx.2];rfl,hw.done⟩
theorem aA4{xs ys:List Pr}{a b:Option Addr}{ca cb:Nat}{w:World}(ha:Cl w a (cZ xs))(hb:Cl w b (cZ ys))(hx:xs.length<4611686018427387904) :
  Calls Tryz.prog 155 #[.slice a xs.length ca,.slice b ys.length cb] w λ e w'=>e=.returned (.bool (decide (xs=ys)))/\St w [] [] w':=by
 refine enter Tryz.func155 Tryz.ntmps155 rfl rfl (SF.s2 ha hb) ?_
 simp only[cA]
 refine Kb3 ?_;refine eA ?_;refine aA ?_;refine eA ?_;refine Kc6 ?_
 refine bD (λ c10=>?_) (λ c10=>?_)
 ·refine cS ?_
  refine aQ Tryz.results155 (λ w hw=>?_)
  exact⟨by rw[It (by omega)];rfl,hw.done⟩
 ·refine kO ?_;refine Ea ?_
  refine iL [4,5,11,12,13,14,15,16,17,18,19,20,21,22,23,24,25] (λ k=>[(5,.int .i64 ((k:Nat):Int))]) (λ k=>k<=xs.length/\xs.take k=ys.take k) (λ k=>xs.length-k) (0) (⟨Nat.zero_le _,by simp⟩) ?_ (λ k f hx=>?_)
  ·repeat (first|exact bJ _|refine bF (by exact rfl) ?_)
  dsimp only[hX,List.map,List.cons_append,List.nil_append]
  refine Db ?_;refine eA ?_;refine Bv ?_
  refine bD (λ c14=>?_) (λ c14=>?_)
  ·refine rR ?_;refine aS ?_;refine gS [0,1,2,3,4,5,6,7,8] ?_;refine iF ?_;refine S7 ?_;refine iF ?_;refine S7 ?_;refine Wi ?_;refine eU ?_
   refine bD (λ c25=>?_) (λ c25=>?_)
   ·refine cS ?_
    refine aQ Tryz.results155 (λ w hw=>?_)
    exact⟨by rw[Hy λ h=>c25 ⟨congrArg Prod.fst h,congrArg Prod.snd h⟩];rfl,hw.done⟩
   ·refine Kc2 ?_
    refine fL (k+1) ?_ ?_ ?_
    ·omega
    ·repeat' (first|exact bJ _|refine bF ?_ ?_)
     exact rfl
    ·exact⟨by omega,xX hx.2 (by omega) (by omega) (Prod.ext c25.1 c25.2)⟩
  ·refine bR rfl ?_;refine cS ?_
   refine aQ Tryz.results155 (λ w hw=>?_)
   exact⟨by rw[De (k:=k) (by omega) (by omega) hx.2];rfl,hw.done⟩
theorem ta{xs ys:List Int}{a b:Option Addr}{ca cb:Nat}{w:World}(ha:Cl w a (aH xs))(hb:Cl w b (aH ys))(hx:xs.length<4611686018427387904) :
  Calls Tryz.prog 236 #[.slice a xs.length ca,.slice b ys.length cb] w λ e w'=>e=.returned (.bool (xs==ys))/\St w [] [] w':=by
 refine enter Tryz.func236 Tryz.ntmps236 rfl rfl (SF.s2 ha hb) ?_
 simp only[cA]
 refine Kb3 ?_;refine eA ?_;refine aA ?_;refine eA ?_;refine Kc6 ?_
 refine bD (λ c10=>?_) (λ c10=>?_)
 ·refine cS ?_
  refine aQ Tryz.results236 (λ w hw=>?_)
  exact⟨by rw[Io (by omega)];rfl,hw.done⟩
 ·refine kO ?_;refine J2 ?_;refine eA ?_;refine M2 ?_;refine dD ?_
  refine iL [4,5,13,14,15,16,17,18,19,20,21,22,23,24,25] (λ k=>[(13,.int .i64 ((k:Nat):Int))]) (λ k=>k<=xs.length/\xs.take k=ys.take k) (λ k=>xs.length-k) (0) (⟨Nat.zero_le _,by simp⟩) ?_ (λ k f hx=>?_)
  ·repeat (first|exact bJ _|refine bF (by exact rfl) ?_)
  dsimp only[hX,List.map,List.cons_append,List.nil_append]
  refine J0 ?_;refine Bv ?_;refine aS ?_
  refine bD (λ c14=>?_) (λ c14=>?_)
  ·refine rR ?_;refine J2 ?_;refine iZ ?_;refine gS [0,1,2,3,4,5,6,7,8] ?_;refine iF ?_;refine S7 ?_;refine iF ?_;refine S7 ?_;refine a7 ?_;refine eU ?_
   refine bD (λ c24=>?_) (λ c24=>?_)
   ·refine cS ?_
    refine aQ Tryz.results236 (λ w hw=>?_)
    exact⟨by rw[Fy c24];rfl,hw.done⟩
   ·refine pG ?_;refine nk ?_;refine M2 ?_
    refine fL (k+1) ?_ ?_ ?_
    ·omega
    ·repeat' (first|exact bJ _|refine bF ?_ ?_)
     exact rfl
    ·exact⟨by omega,xX hx.2 (by omega) (by omega) c24⟩
  ·refine bR rfl ?_;refine cS ?_
   refine aQ Tryz.results236 (λ w hw=>?_)
   exact⟨by rw[Dw (k:=k) (by omega) (by omega) hx.2];rfl,hw.done⟩
theorem xn{xs ys:List Pr}{a b:Option Addr}{ca cb:Nat}{w:World}(ha:Cl w a (cZ xs))(hb:Cl w b (cZ ys))(hx:xs.length<4611686018427387904) :
  Calls Tryz.prog 237 #[.slice a xs.length ca,.slice b ys.length cb] w λ e w'=>e=.returned (.bool (decide (xs=ys)))/\St w [] [] w':=by
 refine enter Tryz.func237 Tryz.ntmps237 rfl rfl (SF.s2 ha hb) ?_
 simp only[cA]
 refine Kb3 ?_;refine eA ?_;refine aA ?_;refine eA ?_;refine Kc6 ?_
 refine bD (λ c10=>?_) (λ c10=>?_)
 ·refine cS ?_
  refine aQ Tryz.results237 (λ w hw=>?_)
  exact⟨by rw[It (by omega)];rfl,hw.done⟩
 ·refine kO ?_;refine J2 ?_;refine eA ?_;refine M2 ?_;refine dD ?_
  refine iL [4,5,13,14,15,16,17,18,19,20,21,22,23,24,25] (λ k=>[(13,.int .i64 ((k:Nat):Int))]) (λ k=>k<=xs.length/\xs.take k=ys.take k) (λ k=>xs.length-k) (0) (⟨Nat.zero_le _,by simp⟩) ?_ (λ k f hx=>?_)
  ·repeat (first|exact bJ _|refine bF (by exact rfl) ?_)
  dsimp only[hX,List.map,List.cons_append,List.nil_append]
  refine J0 ?_;refine Bv ?_;refine aS ?_
  refine bD (λ c14=>?_) (λ c14=>?_)
  ·refine rR ?_;refine J2 ?_;refine iZ ?_;refine gS [0,1,2,3,4,5,6,7,8] ?_;refine iF ?_;refine S7 ?_;refine iF ?_;refine S7 ?_;refine Wi ?_;refine eU ?_
   refine bD (λ c24=>?_) (λ c24=>?_)
   ·refine cS ?_
    refine aQ Tryz.results237 (λ w hw=>?_)
    exact⟨by rw[Hy λ h=>c24 ⟨congrArg Prod.fst h,congrArg Prod.snd h⟩];rfl,hw.done⟩
   ·refine pG ?_;refine nk ?_;refine M2 ?_
    refine fL (k+1) ?_ ?_ ?_
    ·omega
    ·repeat' (first|exact bJ _|refine bF ?_ ?_)
     exact rfl
    ·exact⟨by omega,xX hx.2 (by omega) (by omega) (Prod.ext c24.1 c24.2)⟩
  ·refine bR rfl ?_;refine cS ?_
   refine aQ Tryz.results237 (λ w hw=>?_)
   exact⟨by rw[De (k:=k) (by omega) (by omega) hx.2];rfl,hw.done⟩
end

/- Loops over slices that are read: contracts, the second part. -/
section
open Go.RowKit Go.Ct
theorem Su{xs:List Int}{a:Option Addr}{ca:Nat}{w:World}(ha:Cl w a (aH xs))(hx:xs.length<4611686018427387904) :
  Calls Tryz.prog 199 #[.slice a xs.length ca] w λ e w'=>∃r:Bool,e=.returned (.bool r)/\(r=true↔Pos xs)/\St w [] [] w':=by
 refine enter Tryz.func199 Tryz.ntmps199 rfl rfl (SF.s1 ha) ?_
 simp only[cA]
 refine Kb3 ?_;refine eA ?_;refine M2 ?_;refine dD ?_
 refine iL [2,4,7,8,9,10,11,12,13] (λ k=>[(7,.int .i64 ((k:Nat):Int))]) (λ k=>k<=xs.length/\∀i,i<k->1<=xs.getD i 0) (λ k=>xs.length-k) (0) (⟨Nat.zero_le _,λ i hi=>absurd hi (Nat.not_lt_zero i)⟩) ?_ (λ k f hx=>?_)
 ·repeat (first|exact bJ _|refine bF (by exact rfl) ?_)
 dsimp only[hX,List.map,List.cons_append,List.nil_append]
 refine J0 ?_;refine Bv ?_;refine aS ?_
 refine bD (λ c8=>?_) (λ c8=>?_)
 ·refine rR ?_;refine J0 ?_;refine Ru ?_;refine Ka4 ?_;refine Bv ?_
  refine bD (λ c12=>?_) (λ c12=>?_)
  ·refine cS ?_
   refine aQ Tryz.results199 (λ w hw=>?_)
   exact⟨_,rfl,by simp only[Bool.false_eq_true,false_iff];intro h;have:=h k (by omega);omega,hw.done⟩
  ·refine pG ?_;refine nk ?_;refine M2 ?_
   refine fL (k+1) ?_ ?_ ?_
   ·omega
   ·repeat' (first|exact bJ _|refine bF ?_ ?_)
    exact rfl
   ·exact⟨by omega,λ i hi=>by rcases Nat.lt_succ_iff_lt_or_eq.1 hi with h|rfl;exact hx.2 i h;omega⟩
 ·refine bR rfl ?_;refine cS ?_
  refine aQ Tryz.results199 (λ w hw=>?_)
  exact⟨_,rfl,by simp only[true_iff];intro i hi;exact hx.2 i (by omega),hw.done⟩
theorem P0{l:List Pr}{a:Option Addr}{ca:Nat}{w:World}(ha:Cl w a (cZ l))(hx:l.length<4611686018427387904) :
  Calls Tryz.prog 200 #[.slice a l.length ca] w λ e w'=>∃r:Bool,e=.returned (.bool r)/\(r=true↔Gl l)/\St w [] [] w':=by
 refine enter Tryz.func200 Tryz.ntmps200 rfl rfl (SF.s1 ha) ?_
 simp only[cA]
 refine Kb3 ?_;refine eA ?_;refine M2 ?_;refine dD ?_
 refine iL [2,4,7,8,9,10,11,12,13,14,15] (λ k=>[(7,.int .i64 ((k:Nat):Int))]) (λ k=>k<=l.length/\∀i,i<k->(l.getD i (⟨#[]⟩,0)).1.size<=64) (λ k=>l.length-k) (0) (⟨Nat.zero_le _,λ i hi=>absurd hi (Nat.not_lt_zero i)⟩) ?_ (λ k f hx=>?_)
 ·repeat (first|exact bJ _|refine bF (by exact rfl) ?_)
 dsimp only[hX,List.map,List.cons_append,List.nil_append]
 refine J0 ?_;refine Bv ?_;refine aS ?_
 refine bD (λ c8=>?_) (λ c8=>?_)
 ·refine rR ?_;refine J0 ?_;refine Ru ?_;refine aJ (λ x4=>?_);refine J5 ?_;refine iB ?_;refine mS ?_;refine Ay ?_;refine aG ?_
  refine bD (λ c14=>?_) (λ c14=>?_)
  ·refine cS ?_
   refine aQ Tryz.results200 (λ w hw=>?_)
   exact⟨_,rfl,by simp only[Bool.false_eq_true,false_iff];intro h;have:=h k (by omega);omega,hw.done⟩
  ·refine pG ?_;refine nk ?_;refine M2 ?_
   refine fL (k+1) ?_ ?_ ?_
   ·omega
   ·repeat' (first|exact bJ _|refine bF ?_ ?_)
    exact rfl
   ·exact⟨by omega,λ i hi=>by rcases Nat.lt_succ_iff_lt_or_eq.1 hi with h|rfl;exact hx.2 i h;omega⟩
 ·refine bR rfl ?_;refine cS ?_
  refine aQ Tryz.results200 (λ w hw=>?_)
  exact⟨_,rfl,by simp only[true_iff];intro i hi;exact hx.2 i (by omega),hw.done⟩
theorem mq{l:List Pr}{a:Option Addr}{ca:Nat}{w:World}(ha:Cl w a (cZ l))(hx:l.length<4611686018427387904) :
  Calls Tryz.prog 171 #[.slice a l.length ca] w λ e w'=>∃r:Bool,e=.returned (.bool r)/\(r=true↔Gl l)/\St w [] [] w':=by
 refine enter Tryz.func171 Tryz.ntmps171 rfl rfl (SF.s1 ha) ?_
 simp only[cA]
 refine Gi ?_;refine Ea ?_
 refine iL [2,3,4,5,6,7,8,9,10,11,12,13,14,15,16] (λ k=>[(3,.int .i64 ((k:Nat):Int))]) (λ k=>k<=l.length/\∀i,i<k->(l.getD i (⟨#[]⟩,0)).1.size<=64) (λ k=>l.length-k) (0) (⟨Nat.zero_le _,λ i hi=>absurd hi (Nat.not_lt_zero i)⟩) ?_ (λ k f hx=>?_)
 ·repeat (first|exact bJ _|refine bF (by exact rfl) ?_)
 dsimp only[hX,List.map,List.cons_append,List.nil_append]
 refine Db ?_;refine eA ?_;refine Bv ?_
 refine bD (λ c7=>?_) (λ c7=>?_)
 ·refine rR ?_;refine jJ ?_;refine gM ?_;refine J3 ?_;refine mS ?_;refine Ay ?_;refine aG ?_
  refine bD (λ c16=>?_) (λ c16=>?_)
  ·refine cS ?_
   refine aQ Tryz.results171 (λ w hw=>?_)
   exact⟨_,rfl,by simp only[Bool.false_eq_true,false_iff];intro h;have:=h k (by omega);omega,hw.done⟩
  ·refine Kc2 ?_
   refine fL (k+1) ?_ ?_ ?_
   ·omega
   ·repeat' (first|exact bJ _|refine bF ?_ ?_)
    exact rfl
   ·exact⟨by omega,λ i hi=>by rcases Nat.lt_succ_iff_lt_or_eq.1 hi with h|rfl;exact hx.2 i h;omega⟩
 ·refine bR rfl ?_;refine cS ?_
  refine aQ Tryz.results171 (λ w hw=>?_)
  exact⟨_,rfl,by simp only[true_iff];intro i hi;exact hx.2 i (by omega),hw.done⟩
theorem Y6{l:List Pr}{a:Option Addr}{ca:Nat}{w:World}(ha:Cl w a (cZ l))(hx:l.length<4611686018427387904) :
  Calls Tryz.prog 193 #[.slice a l.length ca] w λ e w'=>∃r:Bool,e=.returned (.bool r)/\(r=true↔wh l)/\St w [] [] w':=by
 refine enter Tryz.func193 Tryz.ntmps193 rfl rfl (SF.s1 ha) ?_
 simp only[cA]
 refine Gi ?_;refine Ea ?_
 refine iL [2,3,4,5,6,7,8,9,10,11,12,13,14,15,16,17,18,19,20,21] (λ k=>[(3,.int .i64 ((k:Nat):Int))]) (λ k=>1<=k/\k<=l.length+1/\∀i,1<=i->i<k->dJ (l.getD (i-1) (⟨#[]⟩,0)).1 (l.getD i (⟨#[]⟩,0)).1=true) (λ k=>l.length-k) (1) (⟨Nat.le_refl _,by omega,λ i h1 hi=>by omega⟩) ?_ (λ k f hx=>?_)
 ·repeat (first|exact bJ _|refine bF (by exact rfl) ?_)
 dsimp only[hX,List.map,List.cons_append,List.nil_append]
 refine Db ?_;refine eA ?_;refine Bv ?_
 refine bD (λ c7=>?_) (λ c7=>?_)
 ·refine rR ?_;refine aS ?_;refine gS [0,1,2,3,4,5,6,7,8,9,10,11] ?_;refine iF ?_;refine Oz ?_;refine jA ?_;refine nA ?_;refine iF ?_;refine jA ?_;refine nA ?_;refine ay ?_;refine eU ?_
  refine bD (λ c21=>?_) (λ c21=>?_)
  ·refine cS ?_
   refine aQ Tryz.results193 (λ w hw=>?_)
   exact⟨_,rfl,by simp only[Bool.false_eq_true,false_iff];intro h;have:=h k (by omega) (by omega);rw[c21] at this;exact Bool.noConfusion this,hw.done⟩
  ·refine Kc2 ?_
   refine fL (k+1) ?_ ?_ ?_
   ·omega
   ·repeat' (first|exact bJ _|refine bF ?_ ?_)
    exact rfl
   ·exact⟨by omega,by omega,λ i h1 hi=>by rcases Nat.lt_succ_iff_lt_or_eq.1 hi with h|rfl;exact hx.2.2 i h1 h;exact c21⟩
 ·refine bR rfl ?_;refine cS ?_
  refine aQ Tryz.results193 (λ w hw=>?_)
  exact⟨_,rfl,by simp only[true_iff];intro i h1 hi;exact hx.2.2 i h1 (by omega),hw.done⟩
theorem mX{l:List Pr}{a:Option Addr}{ca:Nat}{w:World}(ha:Cl w a (cZ l))(hx:l.length<4611686018427387904) :
  Calls Tryz.prog 109 #[.slice a l.length ca] w λ e w'=>∃r:Bool,e=.returned (.bool r)/\(r=true↔wh l)/\St w [] [] w':=by
 refine enter Tryz.func109 Tryz.ntmps109 rfl rfl (SF.s1 ha) ?_
 simp only[cA]
 refine Gi ?_;refine Ea ?_
 refine iL [2,3,4,5,6,7,8,9,10,11,12,13,14,15,16,17,18,19,20,21] (λ k=>[(3,.int .i64 ((k:Nat):Int))]) (λ k=>1<=k/\k<=l.length+1/\∀i,1<=i->i<k->dJ (l.getD (i-1) (⟨#[]⟩,0)).1 (l.getD i (⟨#[]⟩,0)).1=true) (λ k=>l.length-k) (1) (⟨Nat.le_refl _,by omega,λ i h1 hi=>by omega⟩) ?_ (λ k f hx=>?_)
 ·repeat (first|exact bJ _|refine bF (by exact rfl) ?_)
 dsimp only[hX,List.map,List.cons_append,List.nil_append]
 refine Db ?_;refine eA ?_;refine Bv ?_
 refine bD (λ c7=>?_) (λ c7=>?_)
 ·refine rR ?_;refine aS ?_;refine gS [0,1,2,3,4,5,6,7,8,9,10,11] ?_;refine iF ?_;refine jA ?_;refine nA ?_;refine iF ?_;refine Oz ?_;refine jA ?_;refine nA ?_;refine j5 ?_;refine eU ?_
  refine bD (λ c21=>?_) (λ c21=>?_)
  ·refine cS ?_
   refine aQ Tryz.results109 (λ w hw=>?_)
   exact⟨_,rfl,by simp only[Bool.false_eq_true,false_iff];intro h;have:=h k (by omega) (by omega);rw[aBh c21] at this;exact Bool.noConfusion this,hw.done⟩
  ·refine Kc2 ?_
   refine fL (k+1) ?_ ?_ ?_
   ·omega
   ·repeat' (first|exact bJ _|refine bF ?_ ?_)
    exact rfl
   ·exact⟨by omega,by omega,λ i h1 hi=>by rcases Nat.lt_succ_iff_lt_or_eq.1 hi with h|rfl;exact hx.2.2 i h1 h;exact aA6 c21⟩
 ·refine bR rfl ?_;refine cS ?_
  refine aQ Tryz.results109 (λ w hw=>?_)
  exact⟨_,rfl,by simp only[true_iff];intro i h1 hi;exact hx.2.2 i h1 (by omega),hw.done⟩
end

end Go.Proofs.YtbajmaoegmbfgaaGreat
