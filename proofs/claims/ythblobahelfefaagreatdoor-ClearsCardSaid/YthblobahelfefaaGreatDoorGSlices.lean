/- Merged. -/
import Derived.Test.YthblobahelfefaaGreatDoorGFun
import Derived.Test.YthblobahelfefaaGreatDoorAuto
import Derived.Test.YthblobahelfefaaGreatDoorGJoin
set_option linter.unusedSimpArgs false
set_option linter.unusedVariables false
namespace Go.Proofs.YthblobahelfefaaGreatDoor
open Go.Proofs.Tryz
open Go.RowKit Go.Ct
section
variable{a b:Option Addr}{ca cb:Nat}{w:World}
theorem Ql{α} [BEq α] [LawfulBEq α] {xs ys:List α}{k:Nat}(h:xs.length=ys.length)(hk:¬k<xs.length)(ht:xs.take k=ys.take k):(xs==ys)=true:=by rw[List.take_of_length_le (by omega),List.take_of_length_le (by omega)] at ht;simp[ht]
theorem Us{α} [BEq α] [LawfulBEq α] {xs ys:List α}(h:xs.length≠ys.length):(xs==ys)=false:=by simp only[beq_eq_false_iff_ne,ne_eq];intro e;rw[e] at h;exact h rfl
theorem U1{α} [BEq α] [LawfulBEq α] {xs ys:List α}{k:Nat}{d:α}(h:xs.getD k d≠ys.getD k d):(xs==ys)=false:=by simp only[beq_eq_false_iff_ne,ne_eq];intro e;rw[e] at h;exact h rfl
theorem Sm{α} [DecidableEq α] {xs ys:List α}{k:Nat}(h:xs.length=ys.length)(hk:¬k<xs.length)(ht:xs.take k=ys.take k):decide (xs=ys)=true:=by rw[List.take_of_length_le (by omega),List.take_of_length_le (by omega)] at ht;simp[ht]
theorem Ug{α} [DecidableEq α] {xs ys:List α}(h:xs.length≠ys.length):decide (xs=ys)=false:=decide_eq_false λ e=>h (by rw[e])
theorem Uv{α} [DecidableEq α] {xs ys:List α}{k:Nat}{d:α}(h:xs.getD k d≠ys.getD k d):decide (xs=ys)=false:=decide_eq_false λ e=>h (by rw[e])
theorem Kw{α}{xs ys:List α}{k:Nat}{d:α}(h:xs.take k=ys.take k)(hk:k<xs.length)(hl:xs.length=ys.length)(he:xs.getD k d=ys.getD k d):xs.take (k+1)=ys.take (k+1):=by rw[List.take_add_one,List.take_add_one,h,List.getElem?_eq_getElem hk,List.getElem?_eq_getElem (hl▸hk)];simp only[List.getD,List.getElem?_eq_getElem hk,List.getElem?_eq_getElem (hl▸hk:k<ys.length),Option.getD_some] at he;rw[he]
theorem aAE{xs ys:List Int}(ha:Cl w a (aN xs))(hb:Cl w b (aN ys))(hx:xs.length<4611686018427387904) :
  Calls prog 293 #[.slice a xs.length ca,.slice b ys.length cb] w λ e w'=>e=.returned (.bool (xs==ys))/\St w [] [] w':=by
 refine enter func293 ntmps293 rfl rfl (SF.s2 ha hb) ?_;simp only[bY];refine Ka5 ?_;refine cZ ?_;refine aD ?_;refine cZ ?_;refine Kc0 ?_;refine aX (λ c10=>?_) (λ c10=>?_);·refine cC ?_;refine aP results293 (λ w hw=>?_);exact⟨by rw[Us (by omega)];rfl,hw.done⟩
 ·refine mD ?_;refine J2 ?_;refine Ka9 ?_;refine iI [4,5,13,14,15,16,17,18,19,20,21,22,23,24,25] (λ k=>[(13,.int .i64 ((k:Nat):Int))]) (λ k=>k<=xs.length/\xs.take k=ys.take k) (λ k=>xs.length-k) (0) (⟨Nat.zero_le _,by simp⟩) ?_ (λ k f hx=>?_);·repeat (first|exact bH _|refine aY (by exact rfl) ?_)
  refine K2b ?_;refine aX (λ c14=>?_) (λ c14=>?_)
  ·refine Kb4 ?_;refine nN ?_;refine gL [0,1,2,3,4,5,6,7,8] ?_;refine Bx ?_;refine J48 ?_;refine Bx ?_;refine J48 ?_;refine n5 ?_;refine dY ?_;refine aX (λ c24=>?_) (λ c24=>?_);·refine cC ?_;refine aP results293 (λ w hw=>?_);exact⟨by rw[U1 c24];rfl,hw.done⟩
   ·refine Kd0 ?_;refine eO (k+1) ?_ ?_ ?_;·omega
    ·repeat' (first|exact bH _|refine aY ?_ ?_)
     exact rfl
    ·exact⟨by omega,Kw hx.2 (by omega) (by omega) c24⟩
  ·refine K1o ?_;refine cC ?_;refine aP results293 (λ w hw=>?_);exact⟨by rw[Ql (k:=k) (by omega) (by omega) hx.2];rfl,hw.done⟩
theorem aDH{xs ys:List Pr}(ha:Cl w a (cY xs))(hb:Cl w b (cY ys))(hx:xs.length<4611686018427387904) :
  Calls prog 294 #[.slice a xs.length ca,.slice b ys.length cb] w λ e w'=>e=.returned (.bool (decide (xs=ys)))/\St w [] [] w':=by
 refine enter func294 ntmps294 rfl rfl (SF.s2 ha hb) ?_;simp only[bY];refine Ka5 ?_;refine cZ ?_;refine aD ?_;refine cZ ?_;refine Kc0 ?_;refine aX (λ c10=>?_) (λ c10=>?_);·refine cC ?_;refine aP results294 (λ w hw=>?_);exact⟨by rw[Ug (by omega)];rfl,hw.done⟩
 ·refine mD ?_;refine J2 ?_;refine Ka9 ?_;refine iI [4,5,13,14,15,16,17,18,19,20,21,22,23,24,25] (λ k=>[(13,.int .i64 ((k:Nat):Int))]) (λ k=>k<=xs.length/\xs.take k=ys.take k) (λ k=>xs.length-k) (0) (⟨Nat.zero_le _,by simp⟩) ?_ (λ k f hx=>?_);·repeat (first|exact bH _|refine aY (by exact rfl) ?_)
  refine K2b ?_;refine aX (λ c14=>?_) (λ c14=>?_)
  ·refine Kb4 ?_;refine nN ?_;refine gL [0,1,2,3,4,5,6,7,8] ?_;refine Bx ?_;refine J48 ?_;refine Bx ?_;refine J48 ?_;refine aAw ?_;refine dY ?_;refine aX (λ c24=>?_) (λ c24=>?_);·refine cC ?_;refine aP results294 (λ w hw=>?_);exact⟨by rw[Uv λ h=>c24 ⟨congrArg Prod.fst h,congrArg Prod.snd h⟩];rfl,hw.done⟩
   ·refine Kd0 ?_;refine eO (k+1) ?_ ?_ ?_;·omega
    ·repeat' (first|exact bH _|refine aY ?_ ?_)
     exact rfl
    ·exact⟨by omega,Kw hx.2 (by omega) (by omega) (Prod.ext c24.1 c24.2)⟩
  ·refine K1o ?_;refine cC ?_;refine aP results294 (λ w hw=>?_);exact⟨by rw[Sm (k:=k) (by omega) (by omega) hx.2];rfl,hw.done⟩
end
section
theorem aDa{a b:Nd}{x1 x2:List Int}{y1 y2:List Pr}{w:World}(ha:Jy w a x1 y1)(hb:Jy w b x2 y2) :
  Calls prog 264 #[a.v,b.v] w λ e w'=>∃r:Bool,e=.returned (.bool r)/\(r=true↔M8 a b x1 x2 y1 y2)/\St w [] [] w':=by
 have e1:=ha.brN;have e2:=hb.brN;have e3:=ha.prN;have e4:=hb.prN;refine enter func264 ntmps264 rfl rfl (SF.s0 w) ?_;simp only[bY]
 refine K1j ?_;intro x2 x3;refine nN ?_;refine dq (by dsimp only[List.append]) ?_;refine J3 ?_;refine J3 ?_;refine tL ?_;refine aD ?_;(refine kT 10 (λ g10=>?_) (λ g10=>?_)<;>refine Ka1 ?_);all_goals (refine ak ?_;refine Ja ?_;refine aD ?_)
 all_goals (first|refine bG ?_|(refine kT 17 (λ g17=>?_) (λ g17=>?_)<;>refine Ka1 ?_))
 all_goals (refine ak ?_;refine Ja ?_;refine aD ?_)
 all_goals (first|refine bG ?_|(refine kT 24 (λ g24=>?_) (λ g24=>?_)<;>refine Ka1 ?_))
 all_goals (refine ak ?_;refine Ja ?_;refine aD ?_)
 all_goals (first|refine bG ?_|(refine kT 31 (λ g31=>?_) (λ g31=>?_)<;>refine Ka1 ?_))
 all_goals (refine ak ?_;(first|refine bG ?_|(refine aG ?_;refine aK (cV (hc:=λ w1 hw=>by simp only[e1,e2];exact aAE (ha.br.lB hw.st) (hb.br.lB hw.st) ha.brS)) (λ x36=>?_)));refine dG ?_;refine aD ?_)
 all_goals (first|refine bG ?_|(refine kT 38 (λ g38=>?_) (λ g38=>?_)<;>refine Ka1 ?_))
 all_goals (refine ak ?_;refine Ja ?_;refine aD ?_)
 all_goals (first|refine bG ?_|(refine kT 45 (λ g45=>?_) (λ g45=>?_)<;>refine Ka1 ?_))
 all_goals (refine ak ?_;(first|refine bG ?_|(refine aG ?_;refine m9 ?_));refine dG ?_;refine aD ?_)
 all_goals (first|refine bG ?_|(refine kT 52 (λ g52=>?_) (λ g52=>?_)<;>refine Ka1 ?_))
 all_goals (refine ak ?_;refine Ja ?_;refine aD ?_)
 all_goals (first|refine bG ?_|(refine kT 59 (λ g59=>?_) (λ g59=>?_)<;>refine Ka1 ?_))
 all_goals (refine ak ?_;(first|refine bG ?_|(refine aG ?_;refine aK (cV (hc:=λ w1 hw=>by simp only[e3,e4];exact aDH (ha.pr.lB hw.st) (hb.pr.lB hw.st) ha.prS)) (λ x64=>?_)));refine dG ?_;refine aD ?_)
 all_goals (first|refine bG ?_|(refine kT 66 (λ g66=>?_) (λ g66=>?_)<;>refine Ka1 ?_))
 all_goals (refine ak ?_;refine Ja ?_;refine aD ?_)
 all_goals (first|refine bG ?_|(refine kT 73 (λ g73=>?_) (λ g73=>?_)<;>refine Ka1 ?_))
 all_goals (refine ak ?_;refine Ja ?_;refine aD ?_)
 all_goals (first|refine bG ?_|(refine kT 80 (λ g80=>?_) (λ g80=>?_)<;>refine Ka1 ?_))
 all_goals (refine ak ?_;refine Ja ?_;refine aD ?_)
 all_goals (first|refine bG ?_|(refine kT 87 (λ g87=>?_) (λ g87=>?_)<;>refine Ka1 ?_))
 all_goals (refine ak ?_;refine Ja ?_;refine aD ?_)
 all_goals (first|refine bG ?_|(refine kT 94 (λ g94=>?_) (λ g94=>?_)<;>refine Ka1 ?_))
 all_goals (refine ak ?_;refine Ja ?_;refine J1 ?_)
 all_goals
 refine aP results264 (λ w hw=>?_);exact⟨_,rfl,by simp_all[M8],hw.done⟩
theorem jw(a:Nd)(w:World):Calls prog 185 #[a.v] w λ e w'=>∃r:Bool,e=.returned (.bool r)/\(r=true↔(a.kind=3∨a.kind=5∨a.kind=6))/\St w [] [] w':=by
 refine enter func185 ntmps185 rfl rfl (SF.s0 w) ?_;simp only[bY];refine J0 ?_;refine bC (λ x1=>?_);refine nN ?_;refine gP ?_;refine Kb2 ?_;refine Kb1 ?_;refine aX (λ c5=>?_) (λ c5=>?_)
 ·refine bD ?_;refine aX (λ c5=>?_) (λ c5=>?_);·refine cC ?_;refine aP results185 (λ w hw=>?_);exact⟨_,rfl,by simp_all,hw.done⟩
  ·refine Ka2 ?_;refine aP results185 (λ w hw=>?_);exact⟨_,rfl,by simp_all,hw.done⟩
 ·refine iC ?_;refine aX (λ c5=>?_) (λ c5=>?_)
  ·refine bD ?_;refine aX (λ c5=>?_) (λ c5=>?_);·refine cC ?_;refine aP results185 (λ w hw=>?_);exact⟨_,rfl,by simp_all,hw.done⟩
   ·refine Ka2 ?_;refine aP results185 (λ w hw=>?_);exact⟨_,rfl,by simp_all,hw.done⟩
  ·refine Kb3 ?_;refine aX (λ c5=>?_) (λ c5=>?_);·refine cC ?_;refine aP results185 (λ w hw=>?_);exact⟨_,rfl,by simp_all,hw.done⟩
   ·refine Ka2 ?_;refine aP results185 (λ w hw=>?_);exact⟨_,rfl,by simp_all,hw.done⟩
end
section
variable{a:Option Addr}{ca:Nat}{w:World}{l:List Pr}
theorem T3{xs:List Int}(ha:Cl w a (aN xs))(hx:xs.length<4611686018427387904) :
  Calls prog 266 #[.slice a xs.length ca] w λ e w'=>∃r:Bool,e=.returned (.bool r)/\(r=true↔Pos xs)/\St w [] [] w':=by
 refine enter func266 ntmps266 rfl rfl (SF.s1 ha) ?_;simp only[bY];refine Ka5 ?_;refine Ka9 ?_;refine iI [2,4,7,8,9,10,11,12,13] (λ k=>[(7,.int .i64 ((k:Nat):Int))]) (λ k=>k<=xs.length/\∀i,i<k->1<=xs.getD i 0) (λ k=>xs.length-k) (0) (⟨Nat.zero_le _,λ i hi=>absurd hi (Nat.not_lt_zero i)⟩) ?_ (λ k f hx=>?_);·repeat (first|exact bH _|refine aY (by exact rfl) ?_)
 refine K2b ?_;refine aX (λ c8=>?_) (λ c8=>?_)
 ·refine tG ?_;refine J0 ?_;refine J53 ?_;refine Kb7 ?_;refine pD ?_;refine aX (λ c12=>?_) (λ c12=>?_);·refine cC ?_;refine aP results266 (λ w hw=>?_);exact⟨_,rfl,by simp only[Bool.false_eq_true,false_iff];intro h;have:=h k (by omega);omega,hw.done⟩
  ·refine Kd0 ?_;refine eO (k+1) ?_ ?_ ?_;·omega
   ·repeat' (first|exact bH _|refine aY ?_ ?_)
    exact rfl
   ·exact⟨by omega,λ i hi=>by rcases Nat.lt_succ_iff_lt_or_eq.1 hi with h|rfl;exact hx.2 i h;omega⟩
 ·refine K1o ?_;refine cC ?_;refine aP results266 (λ w hw=>?_);exact⟨_,rfl,by simp only[true_iff];intro i hi;exact hx.2 i (by omega),hw.done⟩
theorem Tb(ha:Cl w a (cY l))(hx:l.length<4611686018427387904) :
  Calls prog 267 #[.slice a l.length ca] w λ e w'=>∃r:Bool,e=.returned (.bool r)/\(r=true↔oh l)/\St w [] [] w':=by
 refine enter func267 ntmps267 rfl rfl (SF.s1 ha) ?_;simp only[bY];refine Ka5 ?_;refine Ka9 ?_;refine iI [2,4,7,8,9,10,11,12,13,14,15] (λ k=>[(7,.int .i64 ((k:Nat):Int))]) (λ k=>k<=l.length/\∀i,i<k->(l.getD i (⟨#[]⟩,0)).1.size<=64) (λ k=>l.length-k) (0) (⟨Nat.zero_le _,λ i hi=>absurd hi (Nat.not_lt_zero i)⟩) ?_ (λ k f hx=>?_);·repeat (first|exact bH _|refine aY (by exact rfl) ?_)
 refine K2b ?_;refine aX (λ c8=>?_) (λ c8=>?_)
 ·refine tG ?_;refine J0 ?_;refine J53 ?_;refine aI (λ x4=>?_);refine J5 ?_;refine gP ?_;refine lW ?_;refine Bs ?_;refine aC ?_;refine aX (λ c14=>?_) (λ c14=>?_);·refine cC ?_;refine aP results267 (λ w hw=>?_);exact⟨_,rfl,by simp only[Bool.false_eq_true,false_iff];intro h;have:=h k (by omega);omega,hw.done⟩
  ·refine Kd0 ?_;refine eO (k+1) ?_ ?_ ?_;·omega
   ·repeat' (first|exact bH _|refine aY ?_ ?_)
    exact rfl
   ·exact⟨by omega,λ i hi=>by rcases Nat.lt_succ_iff_lt_or_eq.1 hi with h|rfl;exact hx.2 i h;omega⟩
 ·refine K1o ?_;refine cC ?_;refine aP results267 (λ w hw=>?_);exact⟨_,rfl,by simp only[true_iff];intro i hi;exact hx.2 i (by omega),hw.done⟩
theorem wG(ha:Cl w a (cY l))(hx:l.length<4611686018427387904) :
  Calls prog 182 #[.slice a l.length ca] w λ e w'=>∃r:Bool,e=.returned (.bool r)/\(r=true↔Asc l)/\St w [] [] w':=by
 refine enter func182 ntmps182 rfl rfl (SF.s1 ha) ?_;simp only[bY];refine kt ?_;refine J69 ?_;refine iI [2,3,4,5,6,7,8,9,10,11,12,13,14,15,16,17,18,19,20,21] (λ k=>[(3,.int .i64 ((k:Nat):Int))]) (λ k=>1<=k/\k<=l.length+1/\∀i,1<=i->i<k->cG (l.getD (i-1) (⟨#[]⟩,0)).1 (l.getD i (⟨#[]⟩,0)).1=true) (λ k=>l.length-k) (1) (⟨Nat.le_refl _,by omega,λ i h1 hi=>by omega⟩) ?_ (λ k f hx=>?_);·repeat (first|exact bH _|refine aY (by exact rfl) ?_)
 refine K0a ?_;refine Ir ?_;refine cZ ?_;refine pD ?_;refine aX (λ c7=>?_) (λ c7=>?_)
 ·refine tG ?_;refine aU ?_;refine gL [0,1,2,3,4,5,6,7,8,9,10,11] ?_;refine Bx ?_;refine aBM ?_;refine jW ?_;refine iX ?_;refine Bx ?_;refine jW ?_;refine iX ?_;refine jk ?_;refine dY ?_;refine aX (λ c21=>?_) (λ c21=>?_);·refine cC ?_;refine aP results182 (λ w hw=>?_);exact⟨_,rfl,by simp only[Bool.false_eq_true,false_iff];intro h;have:=h k (by omega) (by omega);rw[c21] at this;exact Bool.noConfusion this,hw.done⟩
  ·refine lI ?_;refine J70 ?_;refine eO (k+1) ?_ ?_ ?_;·omega
   ·repeat' (first|exact bH _|refine aY ?_ ?_)
    exact rfl
   ·exact⟨by omega,by omega,λ i h1 hi=>by rcases Nat.lt_succ_iff_lt_or_eq.1 hi with h|rfl;exact hx.2.2 i h1 h;exact c21⟩
 ·refine K1o ?_;refine cC ?_;refine aP results182 (λ w hw=>?_);exact⟨_,rfl,by simp only[true_iff];intro i h1 hi;exact hx.2.2 i h1 (by omega),hw.done⟩
end
section
variable{w w':World}{F:Fr}{o:Ow}{l ys:List Pr}{a:Option Addr}{c:Nat}{h:Int}{n:Nd}{xs:List Int}
theorem Fl(g:Int)(w:World):Calls prog 133 #[.int .i64 g] w λ e w'=>e=.returned ({Nd.zero with kind:=2,gen:=g}:Nd).v/\St w [] [] w':=by refine enter func133 ntmps133 rfl rfl (SF.s0 w) ?_;simp only[bY];refine J0 ?_;refine aI (λ x2=>?_);refine aC ?_;refine J2 ?_;refine P1 ?_;refine bJ results133 (λ w hw=>?_);exact⟨rfl,hw.done⟩
theorem Nj(w:World):Calls prog 92 #[] w λ e w'=>e=.returned ({Nd.zero with kind:=3}:Nd).v/\St w [] [] w':=by refine enter func92 ntmps92 rfl rfl (SF.s0 w) ?_;simp only[bY];refine J0 ?_;refine aI (λ x0=>?_);refine Kb0 ?_;refine P1 ?_;refine bJ results92 (λ w hw=>?_);exact⟨rfl,hw.done⟩
theorem F5(h:Int)(k:ByteArray)(v:Int)(w:World):Calls prog 273 #[.int .u64 h,.string k,.int .u64 v] w λ e w'=>e=.returned ({Nd.zero with kind:=4,hash:=h,key:=k,val:=v}:Nd).v/\St w [] [] w':=by refine enter func273 ntmps273 rfl rfl (SF.s0 w) ?_;simp only[bY];refine J0 ?_;refine aI (λ x6=>?_);refine aC ?_;refine lV ?_;refine aD ?_;refine P1 ?_;refine bJ results273 (λ w hw=>?_);exact⟨rfl,hw.done⟩
theorem oy(o:Int)(w:World):Calls prog 228 #[.int .i64 o] w λ e w'=>e=.returned ({Nd.zero with kind:=7,old:=o}:Nd).v/\St w [] [] w':=by refine enter func228 ntmps228 rfl rfl (SF.s0 w) ?_;simp only[bY];refine J0 ?_;refine aI (λ x2=>?_);refine aC ?_;refine J2 ?_;refine P1 ?_;refine bJ results228 (λ w hw=>?_);exact⟨rfl,hw.done⟩
theorem nq(o x n:Int)(w:World):Calls prog 192 #[.int .i64 o,.int .i64 x,.int .i64 n] w λ e w'=>e=.returned ({Nd.zero with kind:=8,old:=o,exp:=x,new:=n}:Nd).v/\St w [] [] w':=by refine enter func192 ntmps192 rfl rfl (SF.s0 w) ?_;simp only[bY];refine J0 ?_;refine aI (λ x6=>?_);refine aC ?_;refine lV ?_;refine aD ?_;refine P1 ?_;refine bJ results192 (λ w hw=>?_);exact⟨rfl,hw.done⟩
theorem SF.frz(h:SF w [] [] [] F [o] w'):SF w [] [] [] ((o.p,o.cs)::F) [] w':=h.freeze .head (by simp)
theorem SF.aF1{o2:Ow}(h:SF w [] [] [] F [o,o2] w'):SF w [] [] [] ((o2.p,o2.cs)::(o.p,o.cs)::F) [] w':=(h.freeze .head (by simp)).freeze .head (by simp)
theorem T9:wX prog 162 24=true:=by kernel_rfl
theorem bj:wX prog 69 8=true:=by kernel_rfl
theorem Ko(ha:Cl w a (cY l))(hl:l.length<=11728124029610):Calls prog 271 #[.slice a l.length c] w λ e w' =>
  ∃p:Option Addr,e=.returned (.slice p l.length l.length)/\(l=[]->p=none)/\SF w [] [] [] [] [⟨p,cY l,l.length,162,2⟩] w':=by
 refine enter func271 ntmps271 rfl rfl (SF.s1 ha) ?_;simp only[bY];refine Ka5 ?_;refine cZ ?_;refine Fe ?_;refine aX (λ c6=>?_) (λ c6=>?_);·have hl0:l=[]:=List.eq_nil_of_length_eq_zero (by omega);subst hl0;refine cC ?_;refine aP results271 (λ w hw=>?_);exact⟨none,rfl,λ _=>rfl,(hw.gN 162 2).eP⟩
 ·refine Kc6 ?_;refine cZ ?_;refine aK (li rf rf ep1 T9 om om) (λ x9=>?_);refine P2 ?_;refine Ur (λ x12=>?_);refine aC ?_;refine Kc4 ?_;refine aP results271 (λ w hw=>?_);exact⟨some ⟨x9,0,none⟩,rfl,λ h=>absurd (congrArg List.length h) (by simpa using c6),by simpa using hw.eP (H':=[]) (F':=[])⟩
theorem dj{l:List Int}(ha:Cl w a (aN l))(hl:l.length<=35184372088832):Calls prog 270 #[.slice a l.length c] w λ e w' =>
  ∃p:Option Addr,e=.returned (.slice p l.length l.length)/\(l=[]->p=none)/\SF w [] [] [] [] [⟨p,aN l,l.length,69,1⟩] w':=by
 refine enter func270 ntmps270 rfl rfl (SF.s1 ha) ?_;simp only[bY];refine Ka5 ?_;refine cZ ?_;refine Fe ?_;refine aX (λ c6=>?_) (λ c6=>?_);·have hl0:l=[]:=List.eq_nil_of_length_eq_zero (by omega);subst hl0;refine cC ?_;refine aP results270 (λ w hw=>?_);exact⟨none,rfl,λ _=>rfl,(hw.gN 69 1).eP⟩
 ·refine Kc6 ?_;refine cZ ?_;refine aK (oa rf rf er1 bj om om) (λ x9=>?_);refine P2 ?_;refine Ur (λ x12=>?_);refine aC ?_;refine Kc4 ?_;refine aP results270 (λ w hw=>?_);exact⟨some ⟨x9,0,none⟩,rfl,λ h=>absurd (congrArg List.length h) (by simpa using c6),by simpa using hw.eP (H':=[]) (F':=[])⟩
theorem aBZ(ha:Cl w a (cY l))(hl:l.length<=11728124029610):Calls prog 281 #[.int .u64 h,.slice a l.length c] w λ e w' =>
  ∃p:Option Addr,e=.returned ({Nd.zero with kind:=6,hash:=h,prA:=p,prN:=l.length,cY:=l.length}:Nd).v/\(l=[]->p=none)/\SF w [] [] [] [] [⟨p,cY l,l.length,162,2⟩] w':=by refine enter func281 ntmps281 rfl rfl (SF.s1 ha) ?_;simp only[bY];refine K1h ?_;intro x4;refine aC ?_;refine lV ?_;refine aJ (fv (Hc:=λ _=>[]) (Fc:=λ _=>[]) (hc:=λ w1 hw=>Ko (hw.cl fin) hl)) (λ x7 h7=>?_);refine P1 ?_;refine bJ results281 (λ w hw=>?_);exact⟨x7,rfl,h7,hw.eP⟩
theorem Ym(hr:Jy w n xs ys)(h1:xs.length<=35184372088832)(h2:ys.length<=11728124029610):Calls prog 239 #[n.v] w λ e w' =>
  ∃p:Option Addr×Option Addr,e=.returned ({n with brA:=p.1,brC:=xs.length,prA:=p.2,cY:=ys.length}:Nd).v/\((xs=[]->p.1=none)/\(ys=[]->p.2=none))/\SF w [] [] [] [] [⟨p.2,cY ys,ys.length,162,2⟩,⟨p.1,aN xs,xs.length,69,1⟩] w':=by
 have e1:=hr.brN;have e2:=hr.prN;refine enter func239 ntmps239 rfl rfl (SF.s2 hr.br hr.pr) ?_;simp only[bY]
 simp only[Nd.v,Nd.cells];refine K1r ?_;intro x1 x2;refine gP ?_;refine aJ (fv (Hc:=λ _=>[]) (Fc:=λ _=>[]) (hc:=λ w1 hw=>by rw[e1];exact dj (hw.cl fin) h1)) (λ x5 h5=>?_);refine Tk ?_;refine gP ?_;refine aJ (fv (Hc:=λ _=>[]) (Fc:=λ _=>[]) (hc:=λ w1 hw=>by rw[e2];exact Ko (hw.cl fin) h2)) (λ x9 h9=>?_);refine Tk ?_;refine Kc8 ?_;refine bJ results239 (λ w hw=>?_);exact⟨(x5,x9),by rw[e1,e2];rfl,⟨h5,h9⟩,hw.eP⟩
theorem qe(ha:Cl w a (cY l))(hl:l.length<=11728124029610):Calls prog 281 #[.int .u64 h,.slice a l.length c] w λ e w' =>
  ∃p:Option Addr,e=.returned ({Nd.zero with kind:=6,hash:=h,prA:=p,prN:=l.length,cY:=l.length}:Nd).v/\(l=[]->p=none)/\SF w [] [] [] [(p,cY l)] [] w':=(aBZ ha hl).mono λ _ _ ⟨p,he,hp,hs⟩=>⟨p,he,hp,SF.frz hs⟩
theorem aAj(hr:Jy w n xs ys)(h1:xs.length<=35184372088832)(h2:ys.length<=11728124029610):Calls prog 239 #[n.v] w λ e w' =>
  ∃p:Option Addr×Option Addr,e=.returned ({n with brA:=p.1,brC:=xs.length,prA:=p.2,cY:=ys.length}:Nd).v/\((xs=[]->p.1=none)/\(ys=[]->p.2=none))/\SF w [] [] [] [(p.1,aN xs),(p.2,cY ys)] [] w':=(Ym hr h1 h2).mono λ _ _ ⟨p,he,hp,hs⟩=>⟨p,he,hp,SF.aF1 hs⟩
end
end Go.Proofs.YthblobahelfefaaGreatDoor
namespace Go.Ct
section
def Ec:dJ:=⟨{Nd.zero with kind:=1},[],[]⟩
def aV(L:List dJ)(r:Int):dJ:=if 1<=r/\r<=L.length then L.getD (r-1).toNat dJ.zero else dJ.zero
theorem Iz{L:List dJ}{r:Int}(h:¬(1<=r/\r<=L.length)):aV L r=dJ.zero:=if_neg h
theorem Qs{L:List dJ}{k:Nat}(h:k<L.length):aV L ((k+1:Nat):Int)=L.getD k dJ.zero:=by unfold aV;rw[if_pos (by omega),show(((k+1:Nat):Int)-1).toNat=k by omega]
def bM(L:List dJ):List dJ:=Ec::Ec::L
theorem mY(L:List dJ):(bM L).length=L.length+2:=rfl
theorem Ph:Ec.Fit:=⟨rfl,rfl,by decide,by decide⟩
theorem Fits.all{L:List dJ}(h:Fits L):Fits (bM L):=λ v hv=>by
 simp only[bM,List.mem_cons] at hv;rcases hv with rfl|rfl|hv;·exact Ph
 ·exact Ph
 ·exact h v hv
theorem rF{L:List dJ}(h:Fits L)(r:Int):(aV L r).Fit:=by
 unfold aV;split;·rename_i hr;exact h.at (by omega)
 ·exact jd
structure AX where
 pn:Option Addr
 cn:Nat
 pc:Option Addr
 cc:Nat
 b1:Option Addr
 c1:Nat
 b2:Option Addr
 c2:Nat
def gJ(k:Int)(cs:List Int)(init:Int):List Int:=if k=2∨k=3∨k=5∨k=6∨k=8 then cs++[init] else cs
def kP(n:Nd)(xs:List Int)(ys:List Pr)(c:Nat)(x:AX):dJ :=dJ.mk {n with main:=if n.kind=2 then((c+1:Nat):Int) else 0,prev:=if n.kind=3∨n.kind=5∨n.kind=6 then((c+1:Nat):Int) else 0,status:=if n.kind=8 then((c+1:Nat):Int) else 0,brA:=x.b1,brN:=xs.length,brC:=x.c1,prA:=x.b2,prN:=ys.length,cY:=x.c2} xs ys
theorem jZ{k:Int}{cs:List Int}{init:Int}:cs.length<=(gJ k cs init).length/\(gJ k cs init).length<=cs.length+1:=by unfold gJ;split<;>simp
theorem T0{n:Nd}{xs:List Int}{ys:List Pr}{c:Nat}{x:AX}(h1:xs.length<=35184372088832)(h2:ys.length<=11728124029610):(kP n xs ys c x).Fit:=⟨rfl,rfl,h1,h2⟩
def dJ.at_(v:dJ)(p q:Option Addr):dJ:=⟨{v.nd with brA:=p,brC:=v.xs.length,prA:=q,cY:=v.ys.length},v.xs,v.ys⟩
theorem dJ.Vl{v:dJ}(h:v.Fit)(p q:Option Addr):(v.at_ p q).Fit:=⟨h.brN,h.prN,h.brS,h.prS⟩
end
end Go.Ct
namespace Go.Proofs.YthblobahelfefaaGreatDoor
open Go.Proofs.Tryz
open Go.RowKit Go.Ct
section
variable{w:World}{D:List Nat}{b:Nat}{L:List dJ}{cs:List Int}{gen acc:Int}{pn pc:Option Addr}{cn cc:Nat}{A:Fr}
end
section
variable{w:World}{D:List Nat}{b:Nat}{L:List dJ}{cs:List Int}{gen acc:Int}{pn pc:Option Addr}{cn cc:Nat}{A:Fr}
theorem rA{m c:Nat}{p:Option Addr}{v1 v2 v3:Value}(hs:SF w D [(b,.cells ⟨[.slice p m c,v1,v2,v3]⟩ 124 (0,0))] A [] [] w)(hl:m<=274877906945):Calls prog 339 #[.pointer (some ⟨b,0,none⟩)] w λ e w'=>∃q:Unit,e=.returned (.int .i64 ((m+2:Nat):Int))/\True /\
  SF w D [(b,.cells ⟨[.slice p m c,v1,v2,v3]⟩ 124 (0,0))] [] [] [] w':=by refine enter func339 ntmps339 rfl rfl hs ?_;simp only[bY];refine cC ?_;refine zG ?_;refine cZ ?_;refine pX ?_;refine J1 ?_;refine aP results339 (λ w hw=>?_);exact⟨(),by rw[show(2:Int)+(m:Int)=((m+2:Nat):Int) by omega];rfl,trivial,hw.eP⟩
theorem Bt{n:Nd}{xs:List Int}{ys:List Pr}(init:Int)(hs:SF w D [(b,aO L cs gen acc pn cn pc cc)] [(n.brA,aN xs),(n.prA,cY ys)] [] (mW L cs pn cn pc cc) w)(e1:n.brN=xs.length)(e2:n.prN=ys.length)(h1:xs.length<=274877906944)(h2:ys.length<=274877906944)
  (hl:L.length<=274877906944) (hc:cs.length<=274877906944) :
  Calls prog 333 #[.pointer (some ⟨b,0,none⟩),n.v,.int .i64 init] w λ e w'=>∃x:AX,e=.returned (.int .i64 ((L.length+3:Nat):Int))/\True /\
   SF w D [(b,aO (L++[kP n xs ys cs.length x]) (gJ n.kind cs init) gen acc x.pn x.cn x.pc x.cc)] [] (kP n xs ys cs.length x).fr (mW (L++[kP n xs ys cs.length x]) (gJ n.kind cs init) x.pn x.cn x.pc x.cc) w':=by
 refine enter func333 ntmps333 rfl rfl (vK hs) ?_;simp only[bY];simp only[Nd.v,Nd.cells];refine J0 ?_;refine bC (λ x4=>?_);refine J1 ?_;refine tB ?_;refine aJ (cF (V:=λ p:Option Addr×Option Addr=>.agg ⟨[.int .i64 n.kind,.int .i64 n.gen,.int .i64 n.main,.int .u64 n.bm,.slice p.1 n.brN xs.length,.int .u64 n.hash,.string n.key,.int .u64 n.val,.slice p.2 n.prN ys.length,.int .i64 n.prev,.int .i64 n.old,.int .i64 n.exp,.int .i64 n.new,.int .i64 n.status]⟩) (hc:=λ w1 hw=>aAj (n:=n) ⟨e1,e2,hw.cl (.old .head),hw.cl (.old (.tail .head)),by omega,by omega⟩ (by omega) (by omega))) (λ x8 h8=>?_);refine J5 ?_;refine J0 ?_;refine aF ?_;refine pJ (λ _=>?_);refine aF ?_;refine pJ (λ _=>?_);refine Tk ?_;refine Np ?_;refine gP ?_;refine D4 ?_;refine aX (λ c12=>?_) (λ c12=>?_)
 ·try (exfalso;omega)
  refine U4 ?_;refine aJ (cM (hc:=λ w hs=>rO init hs hc)) (λ x18 h18=>?_);refine Tk ?_;refine eX ?_;refine K0u ?_;refine iW (h:=λ x41=>?_);((refine cB (i:=7) (hq:=(aQ.eG (fS (sz:=14) rf rf tD (by rw[oO]) fin rfl rfl en1 rfl (by decide) fU om) nM)) (h:=λ x42=>?_);try (refine iV (λ h42=>?_))));refine K0l ?_;intro x46 h46 w hw h3;exact⟨⟨x42.1,x42.2,x18.1,x18.2,x8.1,xs.length,x8.2,ys.length⟩,rfl,trivial,by simpa[mO,aO,mW,kP,dJ.fr,gJ,zY,Nd.cells, *] using h3⟩
 ·try (exfalso;omega)
  refine tB ?_;refine aJ (c0 (V:=.bool) (hc:=λ w1 hw=>jw ({n with main:=0,prev:=0,status:=0,brA:=x8.1,brC:=xs.length,prA:=x8.2,cY:=ys.length}:Nd) w1)) (λ x22 h22=>?_);refine J1 ?_;refine aX (λ c20=>?_) (λ c20=>?_)
  ·try (exfalso;omega)
   have k22:n.kind=3∨n.kind=5∨n.kind=6:=h22.1 c20;rcases k22 with k22|k22|k22
   all_goals (refine U4 ?_;refine aJ (cM (hc:=λ w hs=>rO init hs hc)) (λ x25 h25=>?_);refine Tk ?_;refine eX ?_;refine aU ?_;refine eQ [(0,[]),(1,[]),(2,[]),(3,[]),(4,[]),(5,[]),(6,[4]),(7,[]),(8,[]),(9,[]),(10,[])] ?_;refine Th ?_;refine cJ ?_;refine iW (h:=λ x41=>?_);((refine cB (i:=7) (hq:=(aQ.eG (fS (sz:=14) rf rf tD (by rw[oO]) fin rfl rfl en1 rfl (by decide) fU om) nM)) (h:=λ x42=>?_);try (refine iV (λ h42=>?_))));refine fy ?_;refine J2 ?_;refine aJ (cM (hc:=λ w hs=>rA (m:=L.length+1) hs (by omega))) (λ x46 h46=>?_);refine J1 ?_)
   all_goals
   refine aP results333 (λ w hw=>?_);have h3:=hw.eP (H':=[(b,_)]) (F':=[(x8.1,aN xs),(x8.2,cY ys)]) (O':=[_,_]);exact⟨⟨x42.1,x42.2,x25.1,x25.2,x8.1,xs.length,x8.2,ys.length⟩,rfl,trivial,by simpa[mO,aO,mW,kP,dJ.fr,gJ,zY,Nd.cells, *] using h3⟩
  ·try (exfalso;omega)
   have k22:¬(n.kind=3∨n.kind=5∨n.kind=6):=λ k=>by rw[h22.2 k] at c20;cases c20
   obtain⟨k3,k56⟩:=not_or.1 k22;obtain⟨k5,k6⟩:=not_or.1 k56;refine gP ?_;refine D4 ?_;refine aX (λ c27=>?_) (λ c27=>?_)
   ·try (exfalso;omega)
    refine U4 ?_;refine aJ (cM (hc:=λ w hs=>rO init hs hc)) (λ x33 h33=>?_);refine Tk ?_;refine eX ?_;refine K0u ?_;refine iW (h:=λ x41=>?_);((refine cB (i:=7) (hq:=(aQ.eG (fS (sz:=14) rf rf tD (by rw[oO]) fin rfl rfl en1 rfl (by decide) fU om) nM)) (h:=λ x42=>?_);try (refine iV (λ h42=>?_))));refine K0l ?_;intro x46 h46 w hw h3;exact⟨⟨x42.1,x42.2,x33.1,x33.2,x8.1,xs.length,x8.2,ys.length⟩,rfl,trivial,by simpa[mO,aO,mW,kP,dJ.fr,gJ,zY,Nd.cells, *] using h3⟩
   ·try (exfalso;omega)
    refine lI ?_;refine K0u ?_;refine iW (h:=λ x41=>?_);((refine cB (i:=7) (hq:=(aQ.eG (fS (sz:=14) rf rf tD (by rw[oO]) fin rfl rfl en1 rfl (by decide) fU om) nM)) (h:=λ x42=>?_);try (refine iV (λ h42=>?_))));refine K0l ?_;intro x46 h46 w hw h3;exact⟨⟨x42.1,x42.2,pc,cc,x8.1,xs.length,x8.2,ys.length⟩,rfl,trivial,by simpa[mO,aO,mW,kP,dJ.fr,gJ,zY,Nd.cells, *] using h3⟩
end
end Go.Proofs.YthblobahelfefaaGreatDoor
