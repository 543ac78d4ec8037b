/- Merged. -/
import Derived.Test.YtdnklbipddigbaaGreatGMem
import Derived.Test.YtdnklbipddigbaaGreatAuto
set_option linter.unusedSimpArgs false
set_option linter.unusedVariables false
namespace Go.Proofs.YtdnklbipddigbaaGreat
open Go.Proofs.Tryz (prog)
open Go.RowKit Go.Ct
section
theorem beq_of_take{α} [BEq α] [LawfulBEq α] {xs ys:List α}{k:Nat}(h:xs.length=ys.length)(hk:¬k<xs.length)(ht:xs.take k=ys.take k):(xs==ys)=true:=by rw[List.take_of_length_le (by omega),List.take_of_length_le (by omega)] at ht;simp[ht]
theorem beq_of_len{α} [BEq α] [LawfulBEq α] {xs ys:List α}(h:xs.length≠ys.length):(xs==ys)=false:=by simp only[beq_eq_false_iff_ne,ne_eq];intro e;rw[e] at h;exact h rfl
theorem beq_of_get{α} [BEq α] [LawfulBEq α] {xs ys:List α}{k:Nat}{d:α}(h:xs.getD k d≠ys.getD k d):(xs==ys)=false:=by simp only[beq_eq_false_iff_ne,ne_eq];intro e;rw[e] at h;exact h rfl
theorem dec_of_take{α} [DecidableEq α] {xs ys:List α}{k:Nat}(h:xs.length=ys.length)(hk:¬k<xs.length)(ht:xs.take k=ys.take k):decide (xs=ys)=true:=by rw[List.take_of_length_le (by omega),List.take_of_length_le (by omega)] at ht;simp[ht]
theorem dec_of_len{α} [DecidableEq α] {xs ys:List α}(h:xs.length≠ys.length):decide (xs=ys)=false:=decide_eq_false λ e=>h (by rw[e])
theorem dec_of_get{α} [DecidableEq α] {xs ys:List α}{k:Nat}{d:α}(h:xs.getD k d≠ys.getD k d):decide (xs=ys)=false:=decide_eq_false λ e=>h (by rw[e])
theorem take_next{α}{xs ys:List α}{k:Nat}{d:α}(h:xs.take k=ys.take k)(hk:k<xs.length)(hl:xs.length=ys.length)(he:xs.getD k d=ys.getD k d):xs.take (k+1)=ys.take (k+1):=by rw[List.take_add_one,List.take_add_one,h,List.getElem?_eq_getElem hk,List.getElem?_eq_getElem (hl▸hk)];simp only[List.getD,List.getElem?_eq_getElem hk,List.getElem?_eq_getElem (hl▸hk:k<ys.length),Option.getD_some] at he;rw[he]
theorem refs_c{xs ys:List Int}{a b:Option Addr}{ca cb:Nat}{w:World}(ha:Cl w a (refsC xs))(hb:Cl w b (refsC ys))(hx:xs.length<4611686018427387904) :
  Calls prog 56 #[.slice a xs.length ca,.slice b ys.length cb] w λ e w'=>e=.returned (.bool (xs==ys))/\St w [] [] w':=by
 refine enter Tryz.func56 Tryz.ntmps56 rfl rfl (SF.s2 ha hb) ?_;simp only[mkS];refine Kc2 ?_;refine j_len ?_;refine j_move ?_;refine j_len ?_;refine Kb3 ?_;refine kif (λ c10=>?_) (λ c10=>?_);·refine J10 ?_;refine k_rv Tryz.results56 (λ w hw=>?_);exact⟨by rw[beq_of_len (by omega)];rfl,hw.done⟩
 ·refine J16 ?_;refine J69 ?_;refine k_loopC [4,5,11,12,13,14,15,16,17,18,19,20,21,22,23,24,25] (λ k=>[(5,.int .i64 ((k:Nat):Int))]) (λ k=>k<=xs.length/\xs.take k=ys.take k) (λ k=>xs.length-k) (0) (⟨Nat.zero_le _,by simp⟩) ?_ (λ k f hx=>?_);·repeat (first|exact knows_nil _|refine knows_cons (by exact rfl) ?_)
  dsimp only[mkU,List.map,List.cons_append,List.nil_append];refine Kf0 ?_;refine J47 ?_;refine kif (λ c14=>?_) (λ c14=>?_)
  ·refine J37 ?_;refine k_seq ?_;refine k_dq [0,1,2,3,4,5,6,7,8] ?_;refine J17 ?_;refine J48 ?_;refine J17 ?_;refine J48 ?_;refine r_neq ?_;refine r_fin ?_;refine kif (λ c25=>?_) (λ c25=>?_);·refine J10 ?_;refine k_rv Tryz.results56 (λ w hw=>?_);exact⟨by rw[beq_of_get c25];rfl,hw.done⟩
   ·refine Kd1 ?_;refine k_roundC (k+1) ?_ ?_ ?_;·omega
    ·repeat' (first|exact knows_nil _|refine knows_cons ?_ ?_)
     exact rfl
    ·exact⟨by omega,take_next hx.2 (by omega) (by omega) c25⟩
  ·refine k_exit rfl ?_;refine J10 ?_;refine k_rv Tryz.results56 (λ w hw=>?_);exact⟨by rw[beq_of_take (k:=k) (by omega) (by omega) hx.2];rfl,hw.done⟩
theorem prs_c{xs ys:List Pr}{a b:Option Addr}{ca cb:Nat}{w:World}(ha:Cl w a (prC xs))(hb:Cl w b (prC ys))(hx:xs.length<4611686018427387904) :
  Calls prog 55 #[.slice a xs.length ca,.slice b ys.length cb] w λ e w'=>e=.returned (.bool (decide (xs=ys)))/\St w [] [] w':=by
 refine enter Tryz.func55 Tryz.ntmps55 rfl rfl (SF.s2 ha hb) ?_;simp only[mkS];refine Kc2 ?_;refine j_len ?_;refine j_move ?_;refine j_len ?_;refine Kb3 ?_;refine kif (λ c10=>?_) (λ c10=>?_);·refine J10 ?_;refine k_rv Tryz.results55 (λ w hw=>?_);exact⟨by rw[dec_of_len (by omega)];rfl,hw.done⟩
 ·refine J16 ?_;refine J69 ?_;refine k_loopC [4,5,11,12,13,14,15,16,17,18,19,20,21,22,23,24,25] (λ k=>[(5,.int .i64 ((k:Nat):Int))]) (λ k=>k<=xs.length/\xs.take k=ys.take k) (λ k=>xs.length-k) (0) (⟨Nat.zero_le _,by simp⟩) ?_ (λ k f hx=>?_);·repeat (first|exact knows_nil _|refine knows_cons (by exact rfl) ?_)
  dsimp only[mkU,List.map,List.cons_append,List.nil_append];refine Kf0 ?_;refine J47 ?_;refine kif (λ c14=>?_) (λ c14=>?_)
  ·refine J37 ?_;refine k_seq ?_;refine k_dq [0,1,2,3,4,5,6,7,8] ?_;refine J17 ?_;refine J48 ?_;refine J17 ?_;refine J48 ?_;refine r_neqPr ?_;refine r_fin ?_;refine kif (λ c25=>?_) (λ c25=>?_);·refine J10 ?_;refine k_rv Tryz.results55 (λ w hw=>?_);exact⟨by rw[dec_of_get λ h=>c25 ⟨congrArg Prod.fst h,congrArg Prod.snd h⟩];rfl,hw.done⟩
   ·refine Kd1 ?_;refine k_roundC (k+1) ?_ ?_ ?_;·omega
    ·repeat' (first|exact knows_nil _|refine knows_cons ?_ ?_)
     exact rfl
    ·exact⟨by omega,take_next hx.2 (by omega) (by omega) (Prod.ext c25.1 c25.2)⟩
  ·refine k_exit rfl ?_;refine J10 ?_;refine k_rv Tryz.results55 (λ w hw=>?_);exact⟨by rw[dec_of_take (k:=k) (by omega) (by omega) hx.2];rfl,hw.done⟩
theorem slRef_c{xs ys:List Int}{a b:Option Addr}{ca cb:Nat}{w:World}(ha:Cl w a (refsC xs))(hb:Cl w b (refsC ys))(hx:xs.length<4611686018427387904) :
  Calls prog 225 #[.slice a xs.length ca,.slice b ys.length cb] w λ e w'=>e=.returned (.bool (xs==ys))/\St w [] [] w':=by
 refine enter Tryz.func225 Tryz.ntmps225 rfl rfl (SF.s2 ha hb) ?_;simp only[mkS];refine Kc2 ?_;refine j_len ?_;refine j_move ?_;refine j_len ?_;refine Kb3 ?_;refine kif (λ c10=>?_) (λ c10=>?_);·refine J10 ?_;refine k_rv Tryz.results225 (λ w hw=>?_);exact⟨by rw[beq_of_len (by omega)];rfl,hw.done⟩
 ·refine J16 ?_;refine J2 ?_;refine Kc7 ?_;refine k_loopC [4,5,13,14,15,16,17,18,19,20,21,22,23,24,25] (λ k=>[(13,.int .i64 ((k:Nat):Int))]) (λ k=>k<=xs.length/\xs.take k=ys.take k) (λ k=>xs.length-k) (0) (⟨Nat.zero_le _,by simp⟩) ?_ (λ k f hx=>?_);·repeat (first|exact knows_nil _|refine knows_cons (by exact rfl) ?_)
  dsimp only[mkU,List.map,List.cons_append,List.nil_append];refine Ke2 ?_;refine kif (λ c14=>?_) (λ c14=>?_)
  ·refine J37 ?_;refine J2 ?_;refine J27 ?_;refine k_dq [0,1,2,3,4,5,6,7,8] ?_;refine J17 ?_;refine J48 ?_;refine J17 ?_;refine J48 ?_;refine r_neq ?_;refine r_fin ?_;refine kif (λ c24=>?_) (λ c24=>?_);·refine J10 ?_;refine k_rv Tryz.results225 (λ w hw=>?_);exact⟨by rw[beq_of_get c24];rfl,hw.done⟩
   ·refine J34 ?_;refine Kb6 ?_;refine k_roundC (k+1) ?_ ?_ ?_;·omega
    ·repeat' (first|exact knows_nil _|refine knows_cons ?_ ?_)
     exact rfl
    ·exact⟨by omega,take_next hx.2 (by omega) (by omega) c24⟩
  ·refine k_exit rfl ?_;refine J10 ?_;refine k_rv Tryz.results225 (λ w hw=>?_);exact⟨by rw[beq_of_take (k:=k) (by omega) (by omega) hx.2];rfl,hw.done⟩
theorem slPr_c{xs ys:List Pr}{a b:Option Addr}{ca cb:Nat}{w:World}(ha:Cl w a (prC xs))(hb:Cl w b (prC ys))(hx:xs.length<4611686018427387904) :
  Calls prog 226 #[.slice a xs.length ca,.slice b ys.length cb] w λ e w'=>e=.returned (.bool (decide (xs=ys)))/\St w [] [] w':=by
 refine enter Tryz.func226 Tryz.ntmps226 rfl rfl (SF.s2 ha hb) ?_;simp only[mkS];refine Kc2 ?_;refine j_len ?_;refine j_move ?_;refine j_len ?_;refine Kb3 ?_;refine kif (λ c10=>?_) (λ c10=>?_);·refine J10 ?_;refine k_rv Tryz.results226 (λ w hw=>?_);exact⟨by rw[dec_of_len (by omega)];rfl,hw.done⟩
 ·refine J16 ?_;refine J2 ?_;refine Kc7 ?_;refine k_loopC [4,5,13,14,15,16,17,18,19,20,21,22,23,24,25] (λ k=>[(13,.int .i64 ((k:Nat):Int))]) (λ k=>k<=xs.length/\xs.take k=ys.take k) (λ k=>xs.length-k) (0) (⟨Nat.zero_le _,by simp⟩) ?_ (λ k f hx=>?_);·repeat (first|exact knows_nil _|refine knows_cons (by exact rfl) ?_)
  dsimp only[mkU,List.map,List.cons_append,List.nil_append];refine Ke2 ?_;refine kif (λ c14=>?_) (λ c14=>?_)
  ·refine J37 ?_;refine J2 ?_;refine J27 ?_;refine k_dq [0,1,2,3,4,5,6,7,8] ?_;refine J17 ?_;refine J48 ?_;refine J17 ?_;refine J48 ?_;refine r_neqPr ?_;refine r_fin ?_;refine kif (λ c24=>?_) (λ c24=>?_);·refine J10 ?_;refine k_rv Tryz.results226 (λ w hw=>?_);exact⟨by rw[dec_of_get λ h=>c24 ⟨congrArg Prod.fst h,congrArg Prod.snd h⟩];rfl,hw.done⟩
   ·refine J34 ?_;refine Kb6 ?_;refine k_roundC (k+1) ?_ ?_ ?_;·omega
    ·repeat' (first|exact knows_nil _|refine knows_cons ?_ ?_)
     exact rfl
    ·exact⟨by omega,take_next hx.2 (by omega) (by omega) (Prod.ext c24.1 c24.2)⟩
  ·refine k_exit rfl ?_;refine J10 ?_;refine k_rv Tryz.results226 (λ w hw=>?_);exact⟨by rw[dec_of_take (k:=k) (by omega) (by omega) hx.2];rfl,hw.done⟩
end
section
theorem allNodes_c{xs:List Int}{a:Option Addr}{ca:Nat}{w:World}(ha:Cl w a (refsC xs))(hx:xs.length<4611686018427387904) :
  Calls prog 187 #[.slice a xs.length ca] w λ e w'=>∃r:Bool,e=.returned (.bool r)/\(r=true↔Pos xs)/\St w [] [] w':=by
 refine enter Tryz.func187 Tryz.ntmps187 rfl rfl (SF.s1 ha) ?_;simp only[mkS];refine Kc2 ?_;refine Kc7 ?_;refine k_loopC [2,4,7,8,9,10,11,12,13] (λ k=>[(7,.int .i64 ((k:Nat):Int))]) (λ k=>k<=xs.length/\∀i,i<k->1<=xs.getD i 0) (λ k=>xs.length-k) (0) (⟨Nat.zero_le _,λ i hi=>absurd hi (Nat.not_lt_zero i)⟩) ?_ (λ k f hx=>?_);·repeat (first|exact knows_nil _|refine knows_cons (by exact rfl) ?_)
 dsimp only[mkU,List.map,List.cons_append,List.nil_append];refine Ke2 ?_;refine kif (λ c8=>?_) (λ c8=>?_)
 ·refine Kf4 ?_;refine J53 ?_;refine Ka7 ?_;refine J47 ?_;refine kif (λ c12=>?_) (λ c12=>?_);·refine J10 ?_;refine k_rv Tryz.results187 (λ w hw=>?_);exact⟨_,rfl,by simp only[Bool.false_eq_true,false_iff];intro h;have:=h k (by omega);omega,hw.done⟩
  ·refine J34 ?_;refine Kb6 ?_;refine k_roundC (k+1) ?_ ?_ ?_;·omega
   ·repeat' (first|exact knows_nil _|refine knows_cons ?_ ?_)
    exact rfl
   ·exact⟨by omega,λ i hi=>by rcases Nat.lt_succ_iff_lt_or_eq.1 hi with h|rfl;exact hx.2 i h;omega⟩
 ·refine k_exit rfl ?_;refine J10 ?_;refine k_rv Tryz.results187 (λ w hw=>?_);exact⟨_,rfl,by simp only[true_iff];intro i hi;exact hx.2 i (by omega),hw.done⟩
theorem shortKeys_c{l:List Pr}{a:Option Addr}{ca:Nat}{w:World}(ha:Cl w a (prC l))(hx:l.length<4611686018427387904) :
  Calls prog 188 #[.slice a l.length ca] w λ e w'=>∃r:Bool,e=.returned (.bool r)/\(r=true↔Short l)/\St w [] [] w':=by
 refine enter Tryz.func188 Tryz.ntmps188 rfl rfl (SF.s1 ha) ?_;simp only[mkS];refine Kc2 ?_;refine Kc7 ?_;refine k_loopC [2,4,7,8,9,10,11,12,13,14,15] (λ k=>[(7,.int .i64 ((k:Nat):Int))]) (λ k=>k<=l.length/\∀i,i<k->(l.getD i (⟨#[]⟩,0)).1.size<=64) (λ k=>l.length-k) (0) (⟨Nat.zero_le _,λ i hi=>absurd hi (Nat.not_lt_zero i)⟩) ?_ (λ k f hx=>?_);·repeat (first|exact knows_nil _|refine knows_cons (by exact rfl) ?_)
 dsimp only[mkU,List.map,List.cons_append,List.nil_append];refine Ke2 ?_;refine kif (λ c8=>?_) (λ c8=>?_)
 ·refine Kf4 ?_;refine J53 ?_;refine j_alloc (λ x4=>?_);refine J5 ?_;refine J24 ?_;refine j_lenStr ?_;refine j_gtr ?_;refine l_nil ?_;refine kif (λ c14=>?_) (λ c14=>?_);·refine J10 ?_;refine k_rv Tryz.results188 (λ w hw=>?_);exact⟨_,rfl,by simp only[Bool.false_eq_true,false_iff];intro h;have:=h k (by omega);omega,hw.done⟩
  ·refine J34 ?_;refine Kb6 ?_;refine k_roundC (k+1) ?_ ?_ ?_;·omega
   ·repeat' (first|exact knows_nil _|refine knows_cons ?_ ?_)
    exact rfl
   ·exact⟨by omega,λ i hi=>by rcases Nat.lt_succ_iff_lt_or_eq.1 hi with h|rfl;exact hx.2 i h;omega⟩
 ·refine k_exit rfl ?_;refine J10 ?_;refine k_rv Tryz.results188 (λ w hw=>?_);exact⟨_,rfl,by simp only[true_iff];intro i hi;exact hx.2 i (by omega),hw.done⟩
theorem keys_c{l:List Pr}{a:Option Addr}{ca:Nat}{w:World}(ha:Cl w a (prC l))(hx:l.length<4611686018427387904) :
  Calls prog 158 #[.slice a l.length ca] w λ e w'=>∃r:Bool,e=.returned (.bool r)/\(r=true↔Short l)/\St w [] [] w':=by
 refine enter Tryz.func158 Tryz.ntmps158 rfl rfl (SF.s1 ha) ?_;simp only[mkS];refine J75 ?_;refine J69 ?_;refine k_loopC [2,3,4,5,6,7,8,9,10,11,12,13,14,15,16] (λ k=>[(3,.int .i64 ((k:Nat):Int))]) (λ k=>k<=l.length/\∀i,i<k->(l.getD i (⟨#[]⟩,0)).1.size<=64) (λ k=>l.length-k) (0) (⟨Nat.zero_le _,λ i hi=>absurd hi (Nat.not_lt_zero i)⟩) ?_ (λ k f hx=>?_);·repeat (first|exact knows_nil _|refine knows_cons (by exact rfl) ?_)
 dsimp only[mkU,List.map,List.cons_append,List.nil_append];refine Kf0 ?_;refine J47 ?_;refine kif (λ c7=>?_) (λ c7=>?_)
 ·refine J37 ?_;refine J11 ?_;refine j_indexAddr ?_;refine J3 ?_;refine j_lenStr ?_;refine j_gtr ?_;refine l_nil ?_;refine kif (λ c16=>?_) (λ c16=>?_);·refine J10 ?_;refine k_rv Tryz.results158 (λ w hw=>?_);exact⟨_,rfl,by simp only[Bool.false_eq_true,false_iff];intro h;have:=h k (by omega);omega,hw.done⟩
  ·refine Kd1 ?_;refine k_roundC (k+1) ?_ ?_ ?_;·omega
   ·repeat' (first|exact knows_nil _|refine knows_cons ?_ ?_)
    exact rfl
   ·exact⟨by omega,λ i hi=>by rcases Nat.lt_succ_iff_lt_or_eq.1 hi with h|rfl;exact hx.2 i h;omega⟩
 ·refine k_exit rfl ?_;refine J10 ?_;refine k_rv Tryz.results158 (λ w hw=>?_);exact⟨_,rfl,by simp only[true_iff];intro i hi;exact hx.2 i (by omega),hw.done⟩
theorem prValid_c{l:List Pr}{a:Option Addr}{ca:Nat}{w:World}(ha:Cl w a (prC l))(hx:l.length<4611686018427387904) :
  Calls prog 166 #[.slice a l.length ca] w λ e w'=>∃r:Bool,e=.returned (.bool r)/\(r=true↔Asc l)/\St w [] [] w':=by
 refine enter Tryz.func166 Tryz.ntmps166 rfl rfl (SF.s1 ha) ?_;simp only[mkS];refine J75 ?_;refine J69 ?_;refine k_loopC [2,3,4,5,6,7,8,9,10,11,12,13,14,15,16,17,18,19,20,21] (λ k=>[(3,.int .i64 ((k:Nat):Int))]) (λ k=>1<=k/\k<=l.length+1/\∀i,1<=i->i<k->sless (l.getD (i-1) (⟨#[]⟩,0)).1 (l.getD i (⟨#[]⟩,0)).1=true) (λ k=>l.length-k) (1) (⟨Nat.le_refl _,by omega,λ i h1 hi=>by omega⟩) ?_ (λ k f hx=>?_);·repeat (first|exact knows_nil _|refine knows_cons (by exact rfl) ?_)
 dsimp only[mkU,List.map,List.cons_append,List.nil_append];refine Kf0 ?_;refine J47 ?_;refine kif (λ c7=>?_) (λ c7=>?_)
 ·refine J37 ?_;refine k_seq ?_;refine k_dq [0,1,2,3,4,5,6,7,8,9,10,11] ?_;refine J17 ?_;refine r_dec ?_;refine r_indexAddr ?_;refine J15 ?_;refine J17 ?_;refine r_indexAddr ?_;refine J15 ?_;refine r_geqStr ?_;refine r_fin ?_;refine kif (λ c21=>?_) (λ c21=>?_);·refine J10 ?_;refine k_rv Tryz.results166 (λ w hw=>?_);exact⟨_,rfl,by simp only[Bool.false_eq_true,false_iff];intro h;have:=h k (by omega) (by omega);rw[c21] at this;exact Bool.noConfusion this,hw.done⟩
  ·refine Kd1 ?_;refine k_roundC (k+1) ?_ ?_ ?_;·omega
   ·repeat' (first|exact knows_nil _|refine knows_cons ?_ ?_)
    exact rfl
   ·exact⟨by omega,by omega,λ i h1 hi=>by rcases Nat.lt_succ_iff_lt_or_eq.1 hi with h|rfl;exact hx.2.2 i h1 h;exact c21⟩
 ·refine k_exit rfl ?_;refine J10 ?_;refine k_rv Tryz.results166 (λ w hw=>?_);exact⟨_,rfl,by simp only[true_iff];intro i h1 hi;exact hx.2.2 i h1 (by omega),hw.done⟩
theorem refPrValid_c{l:List Pr}{a:Option Addr}{ca:Nat}{w:World}(ha:Cl w a (prC l))(hx:l.length<4611686018427387904) :
  Calls prog 157 #[.slice a l.length ca] w λ e w'=>∃r:Bool,e=.returned (.bool r)/\(r=true↔Asc l)/\St w [] [] w':=by
 refine enter Tryz.func157 Tryz.ntmps157 rfl rfl (SF.s1 ha) ?_;simp only[mkS];refine J75 ?_;refine J69 ?_;refine k_loopC [2,3,4,5,6,7,8,9,10,11,12,13,14,15,16,17,18,19,20,21] (λ k=>[(3,.int .i64 ((k:Nat):Int))]) (λ k=>1<=k/\k<=l.length+1/\∀i,1<=i->i<k->sless (l.getD (i-1) (⟨#[]⟩,0)).1 (l.getD i (⟨#[]⟩,0)).1=true) (λ k=>l.length-k) (1) (⟨Nat.le_refl _,by omega,λ i h1 hi=>by omega⟩) ?_ (λ k f hx=>?_);·repeat (first|exact knows_nil _|refine knows_cons (by exact rfl) ?_)
 dsimp only[mkU,List.map,List.cons_append,List.nil_append];refine Kf0 ?_;refine J47 ?_;refine kif (λ c7=>?_) (λ c7=>?_)
 ·refine J37 ?_;refine k_seq ?_;refine k_dq [0,1,2,3,4,5,6,7,8,9,10,11] ?_;refine J17 ?_;refine r_indexAddr ?_;refine J15 ?_;refine J17 ?_;refine r_dec ?_;refine r_indexAddr ?_;refine J15 ?_;refine r_leqStr ?_;refine r_fin ?_;refine kif (λ c21=>?_) (λ c21=>?_);·refine J10 ?_;refine k_rv Tryz.results157 (λ w hw=>?_);exact⟨_,rfl,by simp only[Bool.false_eq_true,false_iff];intro h;have:=h k (by omega) (by omega);rw[sle_t c21] at this;exact Bool.noConfusion this,hw.done⟩
  ·refine Kd1 ?_;refine k_roundC (k+1) ?_ ?_ ?_;·omega
   ·repeat' (first|exact knows_nil _|refine knows_cons ?_ ?_)
    exact rfl
   ·exact⟨by omega,by omega,λ i h1 hi=>by rcases Nat.lt_succ_iff_lt_or_eq.1 hi with h|rfl;exact hx.2.2 i h1 h;exact sle_f c21⟩
 ·refine k_exit rfl ?_;refine J10 ?_;refine k_rv Tryz.results157 (λ w hw=>?_);exact⟨_,rfl,by simp only[true_iff];intro i h1 hi;exact hx.2.2 i h1 (by omega),hw.done⟩
end
end Go.Proofs.YtdnklbipddigbaaGreat
