/- Loops over slices that are read: contracts, the second part. -/
import Derived.Test.YtpobgmdalcpomaaGreatGRs0
import Derived.Test.YtpobgmdalcpomaaGreatGJoin

set_option linter.unusedSimpArgs false
set_option linter.unusedVariables false
namespace Go.Proofs.YtpobgmdalcpomaaGreat
open Go.RowKit Go.Ct
theorem allNodes_c{xs:List Int}{a:Option Addr}{ca:Nat}{w:World}(ha:Cl w a (refsC xs))(hx:xs.length<4611686018427387904) :
  Calls Tryz.prog 128 #[.slice a xs.length ca] w λ e w'=>∃r:Bool,e=.returned (.bool r)/\(r=true↔Pos xs)/\St w [] [] w':=by
 refine enter Tryz.func128 Tryz.ntmps128 rfl rfl (SF.s1 ha) ?_
 simp only[mkS]
 all_goals (refine J10 ?_;refine J32 ?_;refine j_len ?_;refine J44 ?_;refine k_block ?_)
 all_goals
 refine k_loopC [2,4,7,8,9,10,11,12,13] (λ k=>[(7,.int .i64 ((k:Nat):Int))]) (λ k=>k<=xs.length/\∀i,i<k->1<=xs.getD i 0) (λ k=>xs.length-k) (0) (⟨Nat.zero_le _,λ i hi=>absurd hi (Nat.not_lt_zero i)⟩) ?_ (λ k f hx=>?_)
 ·repeat (first|exact knows_nil _|refine knows_cons (by first|exact rfl|(conv=>{lhs;whnf};simp;done)) ?_)
 dsimp only[mkU,List.map,List.cons_append,List.nil_append]
 all_goals (refine J0 ?_;refine J47 ?_;refine k_seq ?_)
 all_goals
  refine kif (λ c8=>?_) (λ c8=>?_)
  ·try exact nv c8
   all_goals (refine J37 ?_;refine J0 ?_;refine J53 ?_;refine J1 ?_;refine J2 ?_;refine J47 ?_)
   all_goals
   refine kif (λ c12=>?_) (λ c12=>?_)
   ·try exact nv c12
    all_goals refine J10 ?_
    all_goals
     refine k_rv Tryz.results128 (λ w hw=>?_)
     exact⟨_,rfl,by simp only[Bool.false_eq_true,false_iff];intro h;have:=h k (by omega);omega,hw.done⟩
   ·try exact nv c12
    all_goals (refine J34 ?_;refine J77 ?_;refine J44 ?_)
    all_goals
     refine k_roundC (k+1) ?_ ?_ ?_
     ·first|omega|(simp only[];omega)
     ·repeat' (first|exact knows_nil _|refine knows_cons ?_ ?_)
      all_goals (first|exact rfl|(conv=>{lhs;whnf};simp;done)|(conv=>{lhs;whnf};congr 1;omega))
     ·exact⟨by omega,λ i hi=>by rcases Nat.lt_succ_iff_lt_or_eq.1 hi with h|rfl;exact hx.2 i h;omega⟩
  ·try exact nv c8
   all_goals (refine k_exit rfl ?_;refine J10 ?_)
   all_goals
   refine k_rv Tryz.results128 (λ w hw=>?_)
   exact⟨_,rfl,by simp only[true_iff];intro i hi;exact hx.2 i (by omega),hw.done⟩
theorem shortKeys_c{l:List Pr}{a:Option Addr}{ca:Nat}{w:World}(ha:Cl w a (prC l))(hx:l.length<4611686018427387904) :
  Calls Tryz.prog 130 #[.slice a l.length ca] w λ e w'=>∃r:Bool,e=.returned (.bool r)/\(r=true↔Short l)/\St w [] [] w':=by
 refine enter Tryz.func130 Tryz.ntmps130 rfl rfl (SF.s1 ha) ?_
 simp only[mkS]
 all_goals (refine J10 ?_;refine J32 ?_;refine j_len ?_;refine J44 ?_;refine k_block ?_)
 all_goals
 refine k_loopC [2,4,7,8,9,10,11,12,13,14,15] (λ k=>[(7,.int .i64 ((k:Nat):Int))]) (λ k=>k<=l.length/\∀i,i<k->(l.getD i (⟨#[]⟩,0)).1.size<=64) (λ k=>l.length-k) (0) (⟨Nat.zero_le _,λ i hi=>absurd hi (Nat.not_lt_zero i)⟩) ?_ (λ k f hx=>?_)
 ·repeat (first|exact knows_nil _|refine knows_cons (by first|exact rfl|(conv=>{lhs;whnf};simp;done)) ?_)
 dsimp only[mkU,List.map,List.cons_append,List.nil_append]
 all_goals (refine J0 ?_;refine J47 ?_;refine k_seq ?_)
 all_goals
  refine kif (λ c8=>?_) (λ c8=>?_)
  ·try exact nv c8
   all_goals (refine J37 ?_;refine J0 ?_;refine J53 ?_;refine j_alloc (λ x4=>?_);refine J5 ?_;refine J24 ?_;refine j_lenStr ?_;refine j_gtr ?_;refine l_nil ?_)
   all_goals
   refine kif (λ c14=>?_) (λ c14=>?_)
   ·try exact nv c14
    all_goals refine J10 ?_
    all_goals
     refine k_rv Tryz.results130 (λ w hw=>?_)
     exact⟨_,rfl,by simp only[Bool.false_eq_true,false_iff];intro h;have:=h k (by omega);omega,hw.done⟩
   ·try exact nv c14
    all_goals (refine J34 ?_;refine J77 ?_;refine J44 ?_)
    all_goals
     refine k_roundC (k+1) ?_ ?_ ?_
     ·first|omega|(simp only[];omega)
     ·repeat' (first|exact knows_nil _|refine knows_cons ?_ ?_)
      all_goals (first|exact rfl|(conv=>{lhs;whnf};simp;done)|(conv=>{lhs;whnf};congr 1;omega))
     ·exact⟨by omega,λ i hi=>by rcases Nat.lt_succ_iff_lt_or_eq.1 hi with h|rfl;exact hx.2 i h;omega⟩
  ·try exact nv c8
   all_goals (refine k_exit rfl ?_;refine J10 ?_)
   all_goals
   refine k_rv Tryz.results130 (λ w hw=>?_)
   exact⟨_,rfl,by simp only[true_iff];intro i hi;exact hx.2 i (by omega),hw.done⟩
theorem keys_c{l:List Pr}{a:Option Addr}{ca:Nat}{w:World}(ha:Cl w a (prC l))(hx:l.length<4611686018427387904) :
  Calls Tryz.prog 101 #[.slice a l.length ca] w λ e w'=>∃r:Bool,e=.returned (.bool r)/\(r=true↔Short l)/\St w [] [] w':=by
 refine enter Tryz.func101 Tryz.ntmps101 rfl rfl (SF.s1 ha) ?_
 simp only[mkS]
 all_goals (refine J75 ?_;refine J69 ?_)
 all_goals
 refine k_loopC [2,3,4,5,6,7,8,9,10,11,12,13,14,15,16] (λ k=>[(3,.int .i64 ((k:Nat):Int))]) (λ k=>k<=l.length/\∀i,i<k->(l.getD i (⟨#[]⟩,0)).1.size<=64) (λ k=>l.length-k) (0) (⟨Nat.zero_le _,λ i hi=>absurd hi (Nat.not_lt_zero i)⟩) ?_ (λ k f hx=>?_)
 ·repeat (first|exact knows_nil _|refine knows_cons (by first|exact rfl|(conv=>{lhs;whnf};simp;done)) ?_)
 dsimp only[mkU,List.map,List.cons_append,List.nil_append]
 all_goals (refine J65 ?_;refine j_len ?_;refine J47 ?_)
 all_goals
  refine kif (λ c7=>?_) (λ c7=>?_)
  ·try exact nv c7
   all_goals (refine J37 ?_;refine J11 ?_;refine j_indexAddr ?_;refine J3 ?_;refine j_lenStr ?_;refine j_gtr ?_;refine l_nil ?_)
   all_goals
   refine kif (λ c16=>?_) (λ c16=>?_)
   ·try exact nv c16
    all_goals refine J10 ?_
    all_goals
     refine k_rv Tryz.results101 (λ w hw=>?_)
     exact⟨_,rfl,by simp only[Bool.false_eq_true,false_iff];intro h;have:=h k (by omega);omega,hw.done⟩
   ·try exact nv c16
    all_goals (refine J34 ?_;refine J70 ?_)
    all_goals
     refine k_roundC (k+1) ?_ ?_ ?_
     ·first|omega|(simp only[];omega)
     ·repeat' (first|exact knows_nil _|refine knows_cons ?_ ?_)
      all_goals (first|exact rfl|(conv=>{lhs;whnf};simp;done)|(conv=>{lhs;whnf};congr 1;omega))
     ·exact⟨by omega,λ i hi=>by rcases Nat.lt_succ_iff_lt_or_eq.1 hi with h|rfl;exact hx.2 i h;omega⟩
  ·try exact nv c7
   all_goals (refine k_exit rfl ?_;refine J10 ?_)
   all_goals
   refine k_rv Tryz.results101 (λ w hw=>?_)
   exact⟨_,rfl,by simp only[true_iff];intro i hi;exact hx.2 i (by omega),hw.done⟩
theorem prValid_c{l:List Pr}{a:Option Addr}{ca:Nat}{w:World}(ha:Cl w a (prC l))(hx:l.length<4611686018427387904) :
  Calls Tryz.prog 129 #[.slice a l.length ca] w λ e w'=>∃r:Bool,e=.returned (.bool r)/\(r=true↔Asc l)/\St w [] [] w':=by
 refine enter Tryz.func129 Tryz.ntmps129 rfl rfl (SF.s1 ha) ?_
 simp only[mkS]
 all_goals (refine J75 ?_;refine J69 ?_)
 all_goals
 refine k_loopC [2,3,4,5,6,7,8,9,10,11,12,13,14,15,16,17,18,19,20,21] (λ k=>[(3,.int .i64 ((k:Nat):Int))]) (λ k=>1<=k/\k<=l.length+1/\∀i,1<=i->i<k->sless (l.getD (i-1) (⟨#[]⟩,0)).1 (l.getD i (⟨#[]⟩,0)).1=true) (λ k=>l.length-k) (1) (⟨Nat.le_refl _,by omega,λ i h1 hi=>by omega⟩) ?_ (λ k f hx=>?_)
 ·repeat (first|exact knows_nil _|refine knows_cons (by first|exact rfl|(conv=>{lhs;whnf};simp;done)) ?_)
 dsimp only[mkU,List.map,List.cons_append,List.nil_append]
 all_goals (refine J65 ?_;refine j_len ?_;refine J47 ?_)
 all_goals
  refine kif (λ c7=>?_) (λ c7=>?_)
  ·try exact nv c7
   all_goals (refine J37 ?_;refine k_seq ?_;refine k_dq [0,1,2,3,4,5,6,7,8,9,10,11] ?_;refine J17 ?_;refine r_dec ?_;refine r_indexAddr ?_;refine J15 ?_;refine J17 ?_;refine r_indexAddr ?_;refine J15 ?_;refine r_geqStr ?_;refine r_fin ?_)
   all_goals
   refine kif (λ c21=>?_) (λ c21=>?_)
   ·try exact nv c21
    all_goals refine J10 ?_
    all_goals
     refine k_rv Tryz.results129 (λ w hw=>?_)
     exact⟨_,rfl,by simp only[Bool.false_eq_true,false_iff];intro h;have:=h k (by omega) (by omega);rw[c21] at this;exact Bool.noConfusion this,hw.done⟩
   ·try exact nv c21
    all_goals (refine J34 ?_;refine J70 ?_)
    all_goals
     refine k_roundC (k+1) ?_ ?_ ?_
     ·first|omega|(simp only[];omega)
     ·repeat' (first|exact knows_nil _|refine knows_cons ?_ ?_)
      all_goals (first|exact rfl|(conv=>{lhs;whnf};simp;done)|(conv=>{lhs;whnf};congr 1;omega))
     ·exact⟨by omega,by omega,λ i h1 hi=>by rcases Nat.lt_succ_iff_lt_or_eq.1 hi with h|rfl;exact hx.2.2 i h1 h;exact c21⟩
  ·try exact nv c7
   all_goals (refine k_exit rfl ?_;refine J10 ?_)
   all_goals
   refine k_rv Tryz.results129 (λ w hw=>?_)
   exact⟨_,rfl,by simp only[true_iff];intro i h1 hi;exact hx.2.2 i h1 (by omega),hw.done⟩
theorem refPrValid_c{l:List Pr}{a:Option Addr}{ca:Nat}{w:World}(ha:Cl w a (prC l))(hx:l.length<4611686018427387904) :
  Calls Tryz.prog 100 #[.slice a l.length ca] w λ e w'=>∃r:Bool,e=.returned (.bool r)/\(r=true↔Asc l)/\St w [] [] w':=by
 refine enter Tryz.func100 Tryz.ntmps100 rfl rfl (SF.s1 ha) ?_
 simp only[mkS]
 all_goals (refine J75 ?_;refine J69 ?_)
 all_goals
 refine k_loopC [2,3,4,5,6,7,8,9,10,11,12,13,14,15,16,17,18,19,20,21] (λ k=>[(3,.int .i64 ((k:Nat):Int))]) (λ k=>1<=k/\k<=l.length+1/\∀i,1<=i->i<k->sless (l.getD (i-1) (⟨#[]⟩,0)).1 (l.getD i (⟨#[]⟩,0)).1=true) (λ k=>l.length-k) (1) (⟨Nat.le_refl _,by omega,λ i h1 hi=>by omega⟩) ?_ (λ k f hx=>?_)
 ·repeat (first|exact knows_nil _|refine knows_cons (by first|exact rfl|(conv=>{lhs;whnf};simp;done)) ?_)
 dsimp only[mkU,List.map,List.cons_append,List.nil_append]
 all_goals (refine J65 ?_;refine j_len ?_;refine J47 ?_)
 all_goals
  refine kif (λ c7=>?_) (λ c7=>?_)
  ·try exact nv c7
   all_goals (refine J37 ?_;refine k_seq ?_;refine k_dq [0,1,2,3,4,5,6,7,8,9,10,11] ?_;refine J17 ?_;refine r_indexAddr ?_;refine J15 ?_;refine J17 ?_;refine r_dec ?_;refine r_indexAddr ?_;refine J15 ?_;refine r_leqStr ?_;refine r_fin ?_)
   all_goals
   refine kif (λ c21=>?_) (λ c21=>?_)
   ·try exact nv c21
    all_goals refine J10 ?_
    all_goals
     refine k_rv Tryz.results100 (λ w hw=>?_)
     exact⟨_,rfl,by simp only[Bool.false_eq_true,false_iff];intro h;have:=h k (by omega) (by omega);rw[sle_t c21] at this;exact Bool.noConfusion this,hw.done⟩
   ·try exact nv c21
    all_goals (refine J34 ?_;refine J70 ?_)
    all_goals
     refine k_roundC (k+1) ?_ ?_ ?_
     ·first|omega|(simp only[];omega)
     ·repeat' (first|exact knows_nil _|refine knows_cons ?_ ?_)
      all_goals (first|exact rfl|(conv=>{lhs;whnf};simp;done)|(conv=>{lhs;whnf};congr 1;omega))
     ·exact⟨by omega,by omega,λ i h1 hi=>by rcases Nat.lt_succ_iff_lt_or_eq.1 hi with h|rfl;exact hx.2.2 i h1 h;exact sle_f c21⟩
  ·try exact nv c7
   all_goals (refine k_exit rfl ?_;refine J10 ?_)
   all_goals
   refine k_rv Tryz.results100 (λ w hw=>?_)
   exact⟨_,rfl,by simp only[true_iff];intro i h1 hi;exact hx.2.2 i h1 (by omega),hw.done⟩
end Go.Proofs.YtpobgmdalcpomaaGreat

/- Nodes are made; lists are copied. -/
namespace Go.Proofs.YtpobgmdalcpomaaGreat
open Go.RowKit Go.Ct
theorem SF.frz{w w':World}{F:Fr}{o:Ow}(h:SF w [] [] [] F [o] w'):SF w [] [] [] ((o.p,o.cs)::F) [] w':=h.freeze .head (by simp)
theorem SF.frz2{w w':World}{F:Fr}{o o2:Ow}(h:SF w [] [] [] F [o,o2] w'):SF w [] [] [] ((o2.p,o2.cs)::(o.p,o.cs)::F) [] w':=(h.freeze .head (by simp)).freeze .head (by simp)
theorem bytes_pair:bytesLe Tryz.prog 47 24=true:=by kernel_rfl
theorem bytes_ref:bytesLe Tryz.prog 52 8=true:=by kernel_rfl
theorem copiedP_o{l:List Pr}{a:Option Addr}{c:Nat}{w:World}(ha:Cl w a (prC l))(hl:l.length<=11728124029610):Calls Tryz.prog 96 #[.slice a l.length c] w λ e w' =>
  ∃p:Option Addr,e=.returned (.slice p l.length l.length)/\(l=[]->p=none)/\SF w [] [] [] [] [⟨p,prC l,l.length,47,2⟩] w':=by
 refine enter Tryz.func96 Tryz.ntmps96 rfl rfl (SF.s1 ha) ?_
 simp only[mkS]
 all_goals (refine J10 ?_;refine J32 ?_;refine j_len ?_;refine J50 ?_)
 all_goals
 refine kif (λ c6=>?_) (λ c6=>?_)
 ·try exact nv c6
  all_goals
   have hl0:l=[]:=List.eq_nil_of_length_eq_zero (by omega)
   subst hl0
  all_goals refine J10 ?_
  all_goals
   refine k_rv Tryz.results96 (λ w hw=>?_)
   exact⟨none,rfl,λ _=>rfl,(hw.nilOwn 47 2).finH⟩
 ·try exact nv c6
  all_goals (refine k_skip ?_;refine J2 ?_;refine j_len ?_;refine j_own (o_makePW rf rf ep1 bytes_pair om om) (λ x9=>?_);refine J73 ?_;refine j_copy (λ x12=>?_);refine l_nil ?_;refine J2 ?_;refine J1 ?_)
  all_goals
   refine k_rv Tryz.results96 (λ w hw=>?_)
   exact⟨some ⟨x9,0,none⟩,rfl,λ h=>absurd (congrArg List.length h) (by simpa using c6),by simpa using hw.finH (H':=[]) (F':=[])⟩
theorem copiedR_o{l:List Int}{a:Option Addr}{c:Nat}{w:World}(ha:Cl w a (refsC l))(hl:l.length<=35184372088832):Calls Tryz.prog 95 #[.slice a l.length c] w λ e w' =>
  ∃p:Option Addr,e=.returned (.slice p l.length l.length)/\(l=[]->p=none)/\SF w [] [] [] [] [⟨p,refsC l,l.length,52,1⟩] w':=by
 refine enter Tryz.func95 Tryz.ntmps95 rfl rfl (SF.s1 ha) ?_
 simp only[mkS]
 all_goals (refine J10 ?_;refine J32 ?_;refine j_len ?_;refine J50 ?_)
 all_goals
 refine kif (λ c6=>?_) (λ c6=>?_)
 ·try exact nv c6
  all_goals
   have hl0:l=[]:=List.eq_nil_of_length_eq_zero (by omega)
   subst hl0
  all_goals refine J10 ?_
  all_goals
   refine k_rv Tryz.results95 (λ w hw=>?_)
   exact⟨none,rfl,λ _=>rfl,(hw.nilOwn 52 1).finH⟩
 ·try exact nv c6
  all_goals (refine k_skip ?_;refine J2 ?_;refine j_len ?_;refine j_own (o_makeRW rf rf er1 bytes_ref om om) (λ x9=>?_);refine J73 ?_;refine j_copy (λ x12=>?_);refine l_nil ?_;refine J2 ?_;refine J1 ?_)
  all_goals
   refine k_rv Tryz.results95 (λ w hw=>?_)
   exact⟨some ⟨x9,0,none⟩,rfl,λ h=>absurd (congrArg List.length h) (by simpa using c6),by simpa using hw.finH (H':=[]) (F':=[])⟩
theorem clone_o{n:Nd}{xs:List Int}{ys:List Pr}{w:World}(hr:Rep w n xs ys)(h1:xs.length<=35184372088832)(h2:ys.length<=11728124029610):Calls Tryz.prog 68 #[n.v] w λ e w' =>
  ∃p:Option Addr×Option Addr,e=.returned ({n with brA:=p.1,brC:=xs.length,prA:=p.2,prC:=ys.length}:Nd).v/\((xs=[]->p.1=none)/\(ys=[]->p.2=none))/\SF w [] [] [] [] [⟨p.2,prC ys,ys.length,47,2⟩,⟨p.1,refsC xs,xs.length,52,1⟩] w':=by
 have e1:=hr.brN;have e2:=hr.prN
 refine enter Tryz.func68 Tryz.ntmps68 rfl rfl (SF.s2 hr.br hr.pr) ?_
 simp only[mkS]
 simp only[Nd.v,Nd.cells]
 all_goals (refine J0 ?_;refine j_box (λ x1=>?_);refine j_alloc (λ x2=>?_);refine l_nil ?_;refine J24 ?_;(refine j_own (cFH (Hc:=λ _=>[]) (Fc:=λ _=>[]) (hc:=λ w1 hw=>by rw[e1];exact copiedR_o (hw.cl fin) h1)) (λ x5=>?_);try (refine l_fact (λ h5=>?_)));refine J23 ?_;refine J24 ?_;(refine j_own (cFH (Hc:=λ _=>[]) (Fc:=λ _=>[]) (hc:=λ w1 hw=>by rw[e2];exact copiedP_o (hw.cl fin) h2)) (λ x9=>?_);try (refine l_fact (λ h9=>?_)));refine J23 ?_;refine J25 ?_;refine J5 ?_)
 all_goals
 refine k_rt Tryz.results68 (λ w hw=>?_)
 exact⟨(x5,x9),by rw[e1,e2];rfl,⟨h5,h9⟩,hw.finH⟩
theorem clone_c{n:Nd}{xs:List Int}{ys:List Pr}{w:World}(hr:Rep w n xs ys)(h1:xs.length<=35184372088832)(h2:ys.length<=11728124029610):Calls Tryz.prog 68 #[n.v] w λ e w' =>
  ∃p:Option Addr×Option Addr,e=.returned ({n with brA:=p.1,brC:=xs.length,prA:=p.2,prC:=ys.length}:Nd).v/\((xs=[]->p.1=none)/\(ys=[]->p.2=none))/\SF w [] [] [] [(p.1,refsC xs),(p.2,prC ys)] [] w':=(clone_o hr h1 h2).mono λ _ _ ⟨p,he,hp,hs⟩=>⟨p,he,hp,SF.frz2 hs⟩
end Go.Proofs.YtpobgmdalcpomaaGreat

/- Nodes of memories: New, Node, Alloc. -/
namespace Go.Ct
def markV:NdV:=⟨{Nd.zero with kind:=1},[],[]⟩
def nodeV(L:List NdV)(r:Int):NdV:=if 1<=r/\r<=L.length then L.getD (r-1).toNat NdV.zero else NdV.zero
theorem nodeV_no{L:List NdV}{r:Int}(h:¬(1<=r/\r<=L.length)):nodeV L r=NdV.zero:=if_neg h
theorem nodeV_at{L:List NdV}{k:Nat}(h:k<L.length):nodeV L ((k+1:Nat):Int)=L.getD k NdV.zero:=by
 unfold nodeV
 rw[if_pos (by omega),show(((k+1:Nat):Int)-1).toNat=k by omega]
def allV(L:List NdV):List NdV:=markV::markV::L
theorem fit_mark:markV.Fit:=⟨rfl,rfl,by decide,by decide⟩
theorem fit_nodeV{L:List NdV}(h:Fits L)(r:Int):(nodeV L r).Fit:=by
 unfold nodeV
 split
 ·rename_i hr
  exact h.at (by omega)
 ·exact fit_zero
structure AX where
 pn:Option Addr
 cn:Nat
 pc:Option Addr
 cc:Nat
 b1:Option Addr
 c1:Nat
 b2:Option Addr
 c2:Nat
def alCs(k:Int)(cs:List Int)(init:Int):List Int:=if k=2∨k=3∨k=5∨k=6∨k=8 then cs++[init] else cs
def alV(n:Nd)(xs:List Int)(ys:List Pr)(c:Nat)(x:AX):NdV :=
 NdV.mk {n with main:=if n.kind=2 then((c+1:Nat):Int) else 0,prev:=if n.kind=3∨n.kind=5∨n.kind=6 then((c+1:Nat):Int) else 0,status:=if n.kind=8 then((c+1:Nat):Int) else 0,brA:=x.b1,brN:=xs.length,brC:=x.c1,prA:=x.b2,prN:=ys.length,prC:=x.c2} xs ys
theorem alCs_length{k:Int}{cs:List Int}{init:Int}:cs.length<=(alCs k cs init).length/\(alCs k cs init).length<=cs.length+1:=by unfold alCs;split<;>simp
theorem fit_al{n:Nd}{xs:List Int}{ys:List Pr}{c:Nat}{x:AX}(h1:xs.length<=35184372088832)(h2:ys.length<=11728124029610):(alV n xs ys c x).Fit:=⟨rfl,rfl,h1,h2⟩
def NdV.at_(v:NdV)(p q:Option Addr):NdV:=⟨{v.nd with brA:=p,brC:=v.xs.length,prA:=q,prC:=v.ys.length},v.xs,v.ys⟩
theorem NdV.at_fit{v:NdV}(h:v.Fit)(p q:Option Addr):(v.at_ p q).Fit:=⟨h.brN,h.prN,h.brS,h.prS⟩
end Go.Ct
namespace Go.Proofs.YtpobgmdalcpomaaGreat
open Go.RowKit Go.Ct
variable{w:World}{D:List Nat}{b:Nat}{L:List NdV}{cs:List Int}{gen acc:Int}{pn pc:Option Addr}{cn cc:Nat}{A:Fr}
theorem mNew_c(w:World):Calls Tryz.prog 25 #[] w λ e w'=>∃q:Nat×Option Addr,e=.returned (.pointer (some ⟨q.1,0,none⟩))/\True /\
  SF w [] [(q.1,mO [markV,markV] [] 0 0 q.2 2 none 0)] [] [] (mW [markV,markV] [] q.2 2 none 0) w':=by
 refine enter Tryz.func25 Tryz.ntmps25 rfl rfl (SF.s0 w) ?_
 simp only[mkS]
 all_goals (refine J10 ?_;refine J0 ?_;refine j_build ?_;refine j_build ?_;refine j_own (lSFO (c:=2) (sz:=14) rfl (λ _=>o_buildSlice elem_node pa1 rfl rfl rfl rfl (by simp only[flatP,cellsL,List.cons_append,List.nil_append];exact rfl))) (λ x3=>?_);refine j_build ?_;refine j_build ?_;refine j_box (λ x6=>?_);refine J1 ?_)
 all_goals
 refine k_rv Tryz.results25 (λ w hw=>?_)
 exact⟨(x6,some ⟨x3,0,none⟩),rfl,trivial,(SF.swapO (hw.nilOwn 52 1)).finH⟩
theorem mNode_no(hs:SF w D [(b,mO L cs gen acc pn cn pc cc)] A [] (mW L cs pn cn pc cc) w)(r:Int)(hr:r<1):Calls Tryz.prog 16 #[.pointer (some ⟨b,0,none⟩),.int .i64 r] w λ e w'=>∃q:Unit,e=.returned (nodeV L r).nd.v/\True /\
  SF w D [(b,mO L cs gen acc pn cn pc cc)] [] [] (mW L cs pn cn pc cc) w':=by
 refine enter Tryz.func16 Tryz.ntmps16 rfl rfl (mOpen hs) ?_
 simp only[mkS]
 all_goals (refine J0 ?_;refine j_alloc (λ x4=>?_);refine l_nil ?_;refine J32 ?_;refine J64 ?_)
 all_goals (first|refine j_un ?_|(refine j_yes ?_;refine j_move ?_)|(refine lcs 7 (λ g7=>?_) (λ g7=>?_)<;>(try (exfalso;omega))<;>(first|refine j_un ?_|(refine j_yes ?_;refine j_move ?_))))
 all_goals (refine J79 ?_;refine J43 ?_;refine J22 ?_;refine l_nil ?_)
 all_goals
 refine kif (λ c16=>?_) (λ c16=>?_)
 ·try exact nv c16
  all_goals try (exfalso;omega)
  all_goals (refine J0 ?_;refine J52 ?_)
  all_goals
   refine k_rt Tryz.results16 (λ w hw=>?_)
   exact⟨(),by rw[nodeV_no (by omega)];rfl,trivial,hw.finH⟩
 ·try exact nv c16
  all_goals try (exfalso;omega)
  all_goals (refine k_skip ?_;refine J45 ?_;refine J3 ?_;refine j_move ?_;refine j_dec ?_;refine J53 ?_;refine J5 ?_)
  all_goals
   refine k_rt Tryz.results16 (λ w hw=>?_)
   exact⟨(),by rw[nodeV_no (by omega)];rfl,trivial,hw.finH⟩
theorem mNode_at(hs:SF w D [(b,mO L cs gen acc pn cn pc cc)] A [] (mW L cs pn cn pc cc) w){k:Nat}(hk:(k:Int)<9223372036854775807)(hl:L.length<=274877906944):Calls Tryz.prog 16 #[.pointer (some ⟨b,0,none⟩),.int .i64 ((k+1:Nat):Int)] w λ e w'=>∃q:Unit,e=.returned (nodeV L ((k+1:Nat):Int)).nd.v/\True /\
  SF w D [(b,mO L cs gen acc pn cn pc cc)] [] [] (mW L cs pn cn pc cc) w':=by
 refine enter Tryz.func16 Tryz.ntmps16 rfl rfl (mOpen hs) ?_
 simp only[mkS]
 all_goals (refine J0 ?_;refine j_alloc (λ x4=>?_);refine l_nil ?_;refine J32 ?_;refine J64 ?_)
 all_goals (first|refine j_un ?_|(refine j_yes ?_;refine j_move ?_)|(refine lcs 7 (λ g7=>?_) (λ g7=>?_)<;>(try (exfalso;omega))<;>(first|refine j_un ?_|(refine j_yes ?_;refine j_move ?_))))
 all_goals (refine J79 ?_;refine J43 ?_;refine J22 ?_;refine l_nil ?_)
 all_goals
 refine kif (λ c16=>?_) (λ c16=>?_)
 ·try exact nv c16
  all_goals try (exfalso;omega)
  all_goals (refine J0 ?_;refine J52 ?_)
  all_goals
   refine k_rt Tryz.results16 (λ w hw=>?_)
   first|exact⟨(),by rw[nodeV_no (by omega)];rfl,trivial,hw.finH⟩|exact⟨(),by rw[nodeV_at (by omega)];rfl,trivial,hw.finH⟩
 ·try exact nv c16
  all_goals try (exfalso;omega)
  all_goals (refine k_skip ?_;refine J45 ?_;refine J3 ?_;refine j_move ?_;refine j_dec ?_;refine J53 ?_;refine J5 ?_)
  all_goals
   refine k_rt Tryz.results16 (λ w hw=>?_)
   first|exact⟨(),by rw[nodeV_no (by omega)];rfl,trivial,hw.finH⟩|exact⟨(),by rw[nodeV_at (by omega)];rfl,trivial,hw.finH⟩
theorem mNode_c(hs:SF w D [(b,mO L cs gen acc pn cn pc cc)] A [] (mW L cs pn cn pc cc) w)(r:Int)(hr:r<=9223372036854775807)(hl:L.length<=274877906944):Calls Tryz.prog 16 #[.pointer (some ⟨b,0,none⟩),.int .i64 r] w λ e w'=>∃q:Unit,e=.returned (nodeV L r).nd.v/\True /\
  SF w D [(b,mO L cs gen acc pn cn pc cc)] [] [] (mW L cs pn cn pc cc) w':=by
 rcases Int.lt_or_le r 1 with h|h
 ·exact mNode_no hs r h
 ·obtain⟨k,rfl⟩:∃k:Nat,r=((k+1:Nat):Int):=⟨(r-1).toNat,by omega⟩
  exact mNode_at hs (by omega) hl
end Go.Proofs.YtpobgmdalcpomaaGreat
