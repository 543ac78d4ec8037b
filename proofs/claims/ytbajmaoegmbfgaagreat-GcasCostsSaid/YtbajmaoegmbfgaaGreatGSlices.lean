/- Loops over slices that are read: contracts. -/
import Derived.Test.YtbajmaoegmbfgaaGreatGMem
import Derived.Test.YtbajmaoegmbfgaaGreatAuto

set_option linter.unusedSimpArgs false
set_option linter.unusedVariables false
namespace Go.Proofs.YtbajmaoegmbfgaaGreat
section
open Go.RowKit Go.Ct
theorem Dh{α} [BEq α] [LawfulBEq α] {xs ys:List α}{k:Nat}(h:xs.length=ys.length)(hk:¬k<xs.length)(ht:xs.take k=ys.take k):(xs==ys)=true:=by
 rw[List.take_of_length_le (by omega),List.take_of_length_le (by omega)] at ht
 simp[ht]
theorem Fp{α} [BEq α] [LawfulBEq α] {xs ys:List α}(h:xs.length≠ys.length):(xs==ys)=false:=by
 simp only[beq_eq_false_iff_ne,ne_eq]
 intro e;rw[e] at h;exact h rfl
theorem F3{α} [BEq α] [LawfulBEq α] {xs ys:List α}{k:Nat}{d:α}(h:xs.getD k d≠ys.getD k d):(xs==ys)=false:=by
 simp only[beq_eq_false_iff_ne,ne_eq]
 intro e;rw[e] at h;exact h rfl
theorem Cj{α} [DecidableEq α] {xs ys:List α}{k:Nat}(h:xs.length=ys.length)(hk:¬k<xs.length)(ht:xs.take k=ys.take k):decide (xs=ys)=true:=by
 rw[List.take_of_length_le (by omega),List.take_of_length_le (by omega)] at ht
 simp[ht]
theorem Gr{α} [DecidableEq α] {xs ys:List α}(h:xs.length≠ys.length):decide (xs=ys)=false:=decide_eq_false λ e=>h (by rw[e])
theorem Fm{α} [DecidableEq α] {xs ys:List α}{k:Nat}{d:α}(h:xs.getD k d≠ys.getD k d):decide (xs=ys)=false:=decide_eq_false λ e=>h (by rw[e])
theorem wZ{α}{xs ys:List α}{k:Nat}{d:α}(h:xs.take k=ys.take k)(hk:k<xs.length)(hl:xs.length=ys.length)(he:xs.getD k d=ys.getD k d):xs.take (k+1)=ys.take (k+1):=by
 rw[List.take_add_one,List.take_add_one,h,List.getElem?_eq_getElem hk,List.getElem?_eq_getElem (hl▸hk)]
 simp only[List.getD,List.getElem?_eq_getElem hk,List.getElem?_eq_getElem (hl▸hk:k<ys.length),Option.getD_some] at he
 rw[he]
theorem yn{xs ys:List Int}{a b:Option Addr}{ca cb:Nat}{w:World}(ha:Cl w a (aG xs))(hb:Cl w b (aG ys))(hx:xs.length<4611686018427387904) :
  Calls Tryz.prog 112 #[.slice a xs.length ca,.slice b ys.length cb] w λ e w'=>e=.returned (.bool (xs==ys))/\St w [] [] w':=by
 refine enter Tryz.func112 Tryz.ntmps112 rfl rfl (SF.s2 ha hb) ?_
 simp only[cD]
 refine cP ?_;refine kX ?_;refine dJ ?_;refine aA ?_;refine dJ ?_;refine lU ?_;refine aH ?_
 refine aZ (λ c10=>?_) (λ c10=>?_)
 ·refine cP ?_
  refine aQ Tryz.results112 (λ w hw=>?_)
  exact⟨by rw[Fp (by omega)];rfl,hw.done⟩
 ·refine kK ?_;refine Dn ?_
  refine hY [4,5,11,12,13,14,15,16,17,18,19,20,21,22,23,24,25] (λ k=>[(5,.int .i64 ((k:Nat):Int))]) (λ k=>k<=xs.length/\xs.take k=ys.take k) (λ k=>xs.length-k) (0) (⟨Nat.zero_le _,by simp⟩) ?_ (λ k f hx=>?_)
  ·repeat (first|exact bG _|refine bA (by exact rfl) ?_)
  dsimp only[iA,List.map,List.cons_append,List.nil_append]
  refine A6 ?_;refine dJ ?_;refine Cf ?_
  refine aZ (λ c14=>?_) (λ c14=>?_)
  ·refine rR ?_;refine aS ?_;refine gM [0,1,2,3,4,5,6,7,8] ?_;refine gV ?_;refine Rr ?_;refine gV ?_;refine Rr ?_;refine Us ?_;refine eJ ?_
   refine aZ (λ c25=>?_) (λ c25=>?_)
   ·refine cP ?_
    refine aQ Tryz.results112 (λ w hw=>?_)
    exact⟨by rw[F3 c25];rfl,hw.done⟩
   ·refine oP ?_;refine uT ?_
    refine fD (k+1) ?_ ?_ ?_
    ·omega
    ·repeat' (first|exact bG _|refine bA ?_ ?_)
     exact rfl
    ·exact⟨by omega,wZ hx.2 (by omega) (by omega) c25⟩
  ·refine bR rfl ?_;refine cP ?_
   refine aQ Tryz.results112 (λ w hw=>?_)
   exact⟨by rw[Dh (k:=k) (by omega) (by omega) hx.2];rfl,hw.done⟩
theorem z5{xs ys:List Pr}{a b:Option Addr}{ca cb:Nat}{w:World}(ha:Cl w a (cR xs))(hb:Cl w b (cR ys))(hx:xs.length<4611686018427387904) :
  Calls Tryz.prog 155 #[.slice a xs.length ca,.slice b ys.length cb] w λ e w'=>e=.returned (.bool (decide (xs=ys)))/\St w [] [] w':=by
 refine enter Tryz.func155 Tryz.ntmps155 rfl rfl (SF.s2 ha hb) ?_
 simp only[cD]
 refine cP ?_;refine kX ?_;refine dJ ?_;refine aA ?_;refine dJ ?_;refine lU ?_;refine aH ?_
 refine aZ (λ c10=>?_) (λ c10=>?_)
 ·refine cP ?_
  refine aQ Tryz.results155 (λ w hw=>?_)
  exact⟨by rw[Gr (by omega)];rfl,hw.done⟩
 ·refine kK ?_;refine Dn ?_
  refine hY [4,5,11,12,13,14,15,16,17,18,19,20,21,22,23,24,25] (λ k=>[(5,.int .i64 ((k:Nat):Int))]) (λ k=>k<=xs.length/\xs.take k=ys.take k) (λ k=>xs.length-k) (0) (⟨Nat.zero_le _,by simp⟩) ?_ (λ k f hx=>?_)
  ·repeat (first|exact bG _|refine bA (by exact rfl) ?_)
  dsimp only[iA,List.map,List.cons_append,List.nil_append]
  refine A6 ?_;refine dJ ?_;refine Cf ?_
  refine aZ (λ c14=>?_) (λ c14=>?_)
  ·refine rR ?_;refine aS ?_;refine gM [0,1,2,3,4,5,6,7,8] ?_;refine gV ?_;refine Rr ?_;refine gV ?_;refine Rr ?_;refine Vn ?_;refine eJ ?_
   refine aZ (λ c25=>?_) (λ c25=>?_)
   ·refine cP ?_
    refine aQ Tryz.results155 (λ w hw=>?_)
    exact⟨by rw[Fm λ h=>c25 ⟨congrArg Prod.fst h,congrArg Prod.snd h⟩];rfl,hw.done⟩
   ·refine oP ?_;refine uT ?_
    refine fD (k+1) ?_ ?_ ?_
    ·omega
    ·repeat' (first|exact bG _|refine bA ?_ ?_)
     exact rfl
    ·exact⟨by omega,wZ hx.2 (by omega) (by omega) (Prod.ext c25.1 c25.2)⟩
  ·refine bR rfl ?_;refine cP ?_
   refine aQ Tryz.results155 (λ w hw=>?_)
   exact⟨by rw[Cj (k:=k) (by omega) (by omega) hx.2];rfl,hw.done⟩
theorem ku{xs ys:List Int}{a b:Option Addr}{ca cb:Nat}{w:World}(ha:Cl w a (aG xs))(hb:Cl w b (aG ys))(hx:xs.length<4611686018427387904) :
  Calls Tryz.prog 236 #[.slice a xs.length ca,.slice b ys.length cb] w λ e w'=>e=.returned (.bool (xs==ys))/\St w [] [] w':=by
 refine enter Tryz.func236 Tryz.ntmps236 rfl rfl (SF.s2 ha hb) ?_
 simp only[cD]
 refine cP ?_;refine kX ?_;refine dJ ?_;refine aA ?_;refine dJ ?_;refine lU ?_;refine aH ?_
 refine aZ (λ c10=>?_) (λ c10=>?_)
 ·refine cP ?_
  refine aQ Tryz.results236 (λ w hw=>?_)
  exact⟨by rw[Fp (by omega)];rfl,hw.done⟩
 ·refine kK ?_;refine J2 ?_;refine dJ ?_;refine P4 ?_;refine cZ ?_
  refine hY [4,5,13,14,15,16,17,18,19,20,21,22,23,24,25] (λ k=>[(13,.int .i64 ((k:Nat):Int))]) (λ k=>k<=xs.length/\xs.take k=ys.take k) (λ k=>xs.length-k) (0) (⟨Nat.zero_le _,by simp⟩) ?_ (λ k f hx=>?_)
  ·repeat (first|exact bG _|refine bA (by exact rfl) ?_)
  dsimp only[iA,List.map,List.cons_append,List.nil_append]
  refine J0 ?_;refine Cf ?_;refine aS ?_
  refine aZ (λ c14=>?_) (λ c14=>?_)
  ·refine rR ?_;refine J2 ?_;refine iO ?_;refine gM [0,1,2,3,4,5,6,7,8] ?_;refine gV ?_;refine Rr ?_;refine gV ?_;refine Rr ?_;refine Us ?_;refine eJ ?_
   refine aZ (λ c24=>?_) (λ c24=>?_)
   ·refine cP ?_
    refine aQ Tryz.results236 (λ w hw=>?_)
    exact⟨by rw[F3 c24];rfl,hw.done⟩
   ·refine oP ?_;refine qt ?_;refine P4 ?_
    refine fD (k+1) ?_ ?_ ?_
    ·omega
    ·repeat' (first|exact bG _|refine bA ?_ ?_)
     exact rfl
    ·exact⟨by omega,wZ hx.2 (by omega) (by omega) c24⟩
  ·refine bR rfl ?_;refine cP ?_
   refine aQ Tryz.results236 (λ w hw=>?_)
   exact⟨by rw[Dh (k:=k) (by omega) (by omega) hx.2];rfl,hw.done⟩
theorem v5{xs ys:List Pr}{a b:Option Addr}{ca cb:Nat}{w:World}(ha:Cl w a (cR xs))(hb:Cl w b (cR ys))(hx:xs.length<4611686018427387904) :
  Calls Tryz.prog 237 #[.slice a xs.length ca,.slice b ys.length cb] w λ e w'=>e=.returned (.bool (decide (xs=ys)))/\St w [] [] w':=by
 refine enter Tryz.func237 Tryz.ntmps237 rfl rfl (SF.s2 ha hb) ?_
 simp only[cD]
 refine cP ?_;refine kX ?_;refine dJ ?_;refine aA ?_;refine dJ ?_;refine lU ?_;refine aH ?_
 refine aZ (λ c10=>?_) (λ c10=>?_)
 ·refine cP ?_
  refine aQ Tryz.results237 (λ w hw=>?_)
  exact⟨by rw[Gr (by omega)];rfl,hw.done⟩
 ·refine kK ?_;refine J2 ?_;refine dJ ?_;refine P4 ?_;refine cZ ?_
  refine hY [4,5,13,14,15,16,17,18,19,20,21,22,23,24,25] (λ k=>[(13,.int .i64 ((k:Nat):Int))]) (λ k=>k<=xs.length/\xs.take k=ys.take k) (λ k=>xs.length-k) (0) (⟨Nat.zero_le _,by simp⟩) ?_ (λ k f hx=>?_)
  ·repeat (first|exact bG _|refine bA (by exact rfl) ?_)
  dsimp only[iA,List.map,List.cons_append,List.nil_append]
  refine J0 ?_;refine Cf ?_;refine aS ?_
  refine aZ (λ c14=>?_) (λ c14=>?_)
  ·refine rR ?_;refine J2 ?_;refine iO ?_;refine gM [0,1,2,3,4,5,6,7,8] ?_;refine gV ?_;refine Rr ?_;refine gV ?_;refine Rr ?_;refine Vn ?_;refine eJ ?_
   refine aZ (λ c24=>?_) (λ c24=>?_)
   ·refine cP ?_
    refine aQ Tryz.results237 (λ w hw=>?_)
    exact⟨by rw[Fm λ h=>c24 ⟨congrArg Prod.fst h,congrArg Prod.snd h⟩];rfl,hw.done⟩
   ·refine oP ?_;refine qt ?_;refine P4 ?_
    refine fD (k+1) ?_ ?_ ?_
    ·omega
    ·repeat' (first|exact bG _|refine bA ?_ ?_)
     exact rfl
    ·exact⟨by omega,wZ hx.2 (by omega) (by omega) (Prod.ext c24.1 c24.2)⟩
  ·refine bR rfl ?_;refine cP ?_
   refine aQ Tryz.results237 (λ w hw=>?_)
   exact⟨by rw[Cj (k:=k) (by omega) (by omega) hx.2];rfl,hw.done⟩
end

/- Loops over slices that are read: contracts, the second part. -/
section
open Go.RowKit Go.Ct
theorem Tf{xs:List Int}{a:Option Addr}{ca:Nat}{w:World}(ha:Cl w a (aG xs))(hx:xs.length<4611686018427387904) :
  Calls Tryz.prog 199 #[.slice a xs.length ca] w λ e w'=>∃r:Bool,e=.returned (.bool r)/\(r=true↔Pos xs)/\St w [] [] w':=by
 refine enter Tryz.func199 Tryz.ntmps199 rfl rfl (SF.s1 ha) ?_
 simp only[cD]
 refine cP ?_;refine kX ?_;refine dJ ?_;refine P4 ?_;refine cZ ?_
 refine hY [2,4,7,8,9,10,11,12,13] (λ k=>[(7,.int .i64 ((k:Nat):Int))]) (λ k=>k<=xs.length/\∀i,i<k->1<=xs.getD i 0) (λ k=>xs.length-k) (0) (⟨Nat.zero_le _,λ i hi=>absurd hi (Nat.not_lt_zero i)⟩) ?_ (λ k f hx=>?_)
 ·repeat (first|exact bG _|refine bA (by exact rfl) ?_)
 dsimp only[iA,List.map,List.cons_append,List.nil_append]
 refine J0 ?_;refine Cf ?_;refine aS ?_
 refine aZ (λ c8=>?_) (λ c8=>?_)
 ·refine rR ?_;refine J0 ?_;refine Qq ?_;refine J1 ?_;refine J2 ?_;refine Cf ?_
  refine aZ (λ c12=>?_) (λ c12=>?_)
  ·refine cP ?_
   refine aQ Tryz.results199 (λ w hw=>?_)
   exact⟨_,rfl,by simp only[Bool.false_eq_true,false_iff];intro h;have:=h k (by omega);omega,hw.done⟩
  ·refine oP ?_;refine qt ?_;refine P4 ?_
   refine fD (k+1) ?_ ?_ ?_
   ·omega
   ·repeat' (first|exact bG _|refine bA ?_ ?_)
    exact rfl
   ·exact⟨by omega,λ i hi=>by rcases Nat.lt_succ_iff_lt_or_eq.1 hi with h|rfl;exact hx.2 i h;omega⟩
 ·refine bR rfl ?_;refine cP ?_
  refine aQ Tryz.results199 (λ w hw=>?_)
  exact⟨_,rfl,by simp only[true_iff];intro i hi;exact hx.2 i (by omega),hw.done⟩
theorem M1{l:List Pr}{a:Option Addr}{ca:Nat}{w:World}(ha:Cl w a (cR l))(hx:l.length<4611686018427387904) :
  Calls Tryz.prog 200 #[.slice a l.length ca] w λ e w'=>∃r:Bool,e=.returned (.bool r)/\(r=true↔E0 l)/\St w [] [] w':=by
 refine enter Tryz.func200 Tryz.ntmps200 rfl rfl (SF.s1 ha) ?_
 simp only[cD]
 refine cP ?_;refine kX ?_;refine dJ ?_;refine P4 ?_;refine cZ ?_
 refine hY [2,4,7,8,9,10,11,12,13,14,15] (λ k=>[(7,.int .i64 ((k:Nat):Int))]) (λ k=>k<=l.length/\∀i,i<k->(l.getD i (⟨#[]⟩,0)).1.size<=64) (λ k=>l.length-k) (0) (⟨Nat.zero_le _,λ i hi=>absurd hi (Nat.not_lt_zero i)⟩) ?_ (λ k f hx=>?_)
 ·repeat (first|exact bG _|refine bA (by exact rfl) ?_)
 dsimp only[iA,List.map,List.cons_append,List.nil_append]
 refine J0 ?_;refine Cf ?_;refine aS ?_
 refine aZ (λ c8=>?_) (λ c8=>?_)
 ·refine rR ?_;refine J0 ?_;refine Qq ?_;refine aJ (λ x4=>?_);refine J5 ?_;refine hZ ?_;refine mD ?_;refine Db ?_;refine aH ?_
  refine aZ (λ c14=>?_) (λ c14=>?_)
  ·refine cP ?_
   refine aQ Tryz.results200 (λ w hw=>?_)
   exact⟨_,rfl,by simp only[Bool.false_eq_true,false_iff];intro h;have:=h k (by omega);omega,hw.done⟩
  ·refine oP ?_;refine qt ?_;refine P4 ?_
   refine fD (k+1) ?_ ?_ ?_
   ·omega
   ·repeat' (first|exact bG _|refine bA ?_ ?_)
    exact rfl
   ·exact⟨by omega,λ i hi=>by rcases Nat.lt_succ_iff_lt_or_eq.1 hi with h|rfl;exact hx.2 i h;omega⟩
 ·refine bR rfl ?_;refine cP ?_
  refine aQ Tryz.results200 (λ w hw=>?_)
  exact⟨_,rfl,by simp only[true_iff];intro i hi;exact hx.2 i (by omega),hw.done⟩
theorem Yg{l:List Pr}{a:Option Addr}{ca:Nat}{w:World}(ha:Cl w a (cR l))(hx:l.length<4611686018427387904) :
  Calls Tryz.prog 171 #[.slice a l.length ca] w λ e w'=>∃r:Bool,e=.returned (.bool r)/\(r=true↔E0 l)/\St w [] [] w':=by
 refine enter Tryz.func171 Tryz.ntmps171 rfl rfl (SF.s1 ha) ?_
 simp only[cD]
 refine Ha ?_;refine Dn ?_
 refine hY [2,3,4,5,6,7,8,9,10,11,12,13,14,15,16] (λ k=>[(3,.int .i64 ((k:Nat):Int))]) (λ k=>k<=l.length/\∀i,i<k->(l.getD i (⟨#[]⟩,0)).1.size<=64) (λ k=>l.length-k) (0) (⟨Nat.zero_le _,λ i hi=>absurd hi (Nat.not_lt_zero i)⟩) ?_ (λ k f hx=>?_)
 ·repeat (first|exact bG _|refine bA (by exact rfl) ?_)
 dsimp only[iA,List.map,List.cons_append,List.nil_append]
 refine A6 ?_;refine dJ ?_;refine Cf ?_
 refine aZ (λ c7=>?_) (λ c7=>?_)
 ·refine rR ?_;refine jA ?_;refine gC ?_;refine J3 ?_;refine mD ?_;refine Db ?_;refine aH ?_
  refine aZ (λ c16=>?_) (λ c16=>?_)
  ·refine cP ?_
   refine aQ Tryz.results171 (λ w hw=>?_)
   exact⟨_,rfl,by simp only[Bool.false_eq_true,false_iff];intro h;have:=h k (by omega);omega,hw.done⟩
  ·refine oP ?_;refine uT ?_
   refine fD (k+1) ?_ ?_ ?_
   ·omega
   ·repeat' (first|exact bG _|refine bA ?_ ?_)
    exact rfl
   ·exact⟨by omega,λ i hi=>by rcases Nat.lt_succ_iff_lt_or_eq.1 hi with h|rfl;exact hx.2 i h;omega⟩
 ·refine bR rfl ?_;refine cP ?_
  refine aQ Tryz.results171 (λ w hw=>?_)
  exact⟨_,rfl,by simp only[true_iff];intro i hi;exact hx.2 i (by omega),hw.done⟩
theorem W9{l:List Pr}{a:Option Addr}{ca:Nat}{w:World}(ha:Cl w a (cR l))(hx:l.length<4611686018427387904) :
  Calls Tryz.prog 193 #[.slice a l.length ca] w λ e w'=>∃r:Bool,e=.returned (.bool r)/\(r=true↔r3 l)/\St w [] [] w':=by
 refine enter Tryz.func193 Tryz.ntmps193 rfl rfl (SF.s1 ha) ?_
 simp only[cD]
 refine Ha ?_;refine Dn ?_
 refine hY [2,3,4,5,6,7,8,9,10,11,12,13,14,15,16,17,18,19,20,21] (λ k=>[(3,.int .i64 ((k:Nat):Int))]) (λ k=>1<=k/\k<=l.length+1/\∀i,1<=i->i<k->dH (l.getD (i-1) (⟨#[]⟩,0)).1 (l.getD i (⟨#[]⟩,0)).1=true) (λ k=>l.length-k) (1) (⟨Nat.le_refl _,by omega,λ i h1 hi=>by omega⟩) ?_ (λ k f hx=>?_)
 ·repeat (first|exact bG _|refine bA (by exact rfl) ?_)
 dsimp only[iA,List.map,List.cons_append,List.nil_append]
 refine A6 ?_;refine dJ ?_;refine Cf ?_
 refine aZ (λ c7=>?_) (λ c7=>?_)
 ·refine rR ?_;refine aS ?_;refine gM [0,1,2,3,4,5,6,7,8,9,10,11] ?_;refine gV ?_;refine Oa ?_;refine iQ ?_;refine mI ?_;refine gV ?_;refine iQ ?_;refine mI ?_;refine iw ?_;refine eJ ?_
  refine aZ (λ c21=>?_) (λ c21=>?_)
  ·refine cP ?_
   refine aQ Tryz.results193 (λ w hw=>?_)
   exact⟨_,rfl,by simp only[Bool.false_eq_true,false_iff];intro h;have:=h k (by omega) (by omega);rw[c21] at this;exact Bool.noConfusion this,hw.done⟩
  ·refine oP ?_;refine uT ?_
   refine fD (k+1) ?_ ?_ ?_
   ·omega
   ·repeat' (first|exact bG _|refine bA ?_ ?_)
    exact rfl
   ·exact⟨by omega,by omega,λ i h1 hi=>by rcases Nat.lt_succ_iff_lt_or_eq.1 hi with h|rfl;exact hx.2.2 i h1 h;exact c21⟩
 ·refine bR rfl ?_;refine cP ?_
  refine aQ Tryz.results193 (λ w hw=>?_)
  exact⟨_,rfl,by simp only[true_iff];intro i h1 hi;exact hx.2.2 i h1 (by omega),hw.done⟩
theorem mE{l:List Pr}{a:Option Addr}{ca:Nat}{w:World}(ha:Cl w a (cR l))(hx:l.length<4611686018427387904) :
  Calls Tryz.prog 109 #[.slice a l.length ca] w λ e w'=>∃r:Bool,e=.returned (.bool r)/\(r=true↔r3 l)/\St w [] [] w':=by
 refine enter Tryz.func109 Tryz.ntmps109 rfl rfl (SF.s1 ha) ?_
 simp only[cD]
 refine Ha ?_;refine Dn ?_
 refine hY [2,3,4,5,6,7,8,9,10,11,12,13,14,15,16,17,18,19,20,21] (λ k=>[(3,.int .i64 ((k:Nat):Int))]) (λ k=>1<=k/\k<=l.length+1/\∀i,1<=i->i<k->dH (l.getD (i-1) (⟨#[]⟩,0)).1 (l.getD i (⟨#[]⟩,0)).1=true) (λ k=>l.length-k) (1) (⟨Nat.le_refl _,by omega,λ i h1 hi=>by omega⟩) ?_ (λ k f hx=>?_)
 ·repeat (first|exact bG _|refine bA (by exact rfl) ?_)
 dsimp only[iA,List.map,List.cons_append,List.nil_append]
 refine A6 ?_;refine dJ ?_;refine Cf ?_
 refine aZ (λ c7=>?_) (λ c7=>?_)
 ·refine rR ?_;refine aS ?_;refine gM [0,1,2,3,4,5,6,7,8,9,10,11] ?_;refine gV ?_;refine iQ ?_;refine mI ?_;refine gV ?_;refine Oa ?_;refine iQ ?_;refine mI ?_;refine bf ?_;refine eJ ?_
  refine aZ (λ c21=>?_) (λ c21=>?_)
  ·refine cP ?_
   refine aQ Tryz.results109 (λ w hw=>?_)
   exact⟨_,rfl,by simp only[Bool.false_eq_true,false_iff];intro h;have:=h k (by omega) (by omega);rw[aBb c21] at this;exact Bool.noConfusion this,hw.done⟩
  ·refine oP ?_;refine uT ?_
   refine fD (k+1) ?_ ?_ ?_
   ·omega
   ·repeat' (first|exact bG _|refine bA ?_ ?_)
    exact rfl
   ·exact⟨by omega,by omega,λ i h1 hi=>by rcases Nat.lt_succ_iff_lt_or_eq.1 hi with h|rfl;exact hx.2.2 i h1 h;exact aAe c21⟩
 ·refine bR rfl ?_;refine cP ?_
  refine aQ Tryz.results109 (λ w hw=>?_)
  exact⟨_,rfl,by simp only[true_iff];intro i h1 hi;exact hx.2.2 i h1 (by omega),hw.done⟩
end

end Go.Proofs.YtbajmaoegmbfgaaGreat
