/- Merged. -/
import Derived.Test.YtdnklbipddigbaaGreatGNode4
import Derived.Test.YtdnklbipddigbaaGreatGSlices
set_option linter.unusedSimpArgs false
set_option linter.unusedVariables false
namespace Go.Proofs.YtdnklbipddigbaaGreat
open Go.RowKit Go.Ct
section
theorem only_c (n : Nd) (h1 : 1 ≤ n.kind) (h8 : n.kind ≤ 8) (w : World) : Calls Tryz.prog 155 #[n.v] w fun e w' => e = .returned n.own.v ∧ St w [] [] w' := by
 refine enter Tryz.func155 Tryz.ntmps155 rfl rfl (SF.s0 w) ?_;simp only [mkS];refine J0 ?_; refine j_box (fun x1 => ?_); refine j_alloc (fun x2 => ?_); refine l_nil ?_; refine J72 ?_; refine l_nil ?_; refine k_block ?_; refine J39 ?_;refine kif (fun c5 => ?_) (fun c5 => ?_);·refine J24 ?_; refine J52 ?_;refine k_rt Tryz.results155 (fun w hw => ?_);(exact ⟨by simp only [Nd.own, beq_iff_eq, *, if_true, if_false]; rfl, hw.done⟩)
 ·refine J39 ?_;refine kif (fun c10 => ?_) (fun c10 => ?_);·refine J24 ?_; refine J3 ?_; refine J3 ?_; refine J52 ?_;refine k_rt Tryz.results155 (fun w hw => ?_);(exact ⟨by simp only [Nd.own, beq_iff_eq, *, if_true, if_false]; rfl, hw.done⟩)
  ·refine J39 ?_;refine kif (fun c19 => ?_) (fun c19 => ?_);·refine J24 ?_; refine J3 ?_; refine J3 ?_; refine J3 ?_; refine J52 ?_;refine k_rt Tryz.results155 (fun w hw => ?_);(exact ⟨by simp only [Nd.own, beq_iff_eq, *, if_true, if_false]; rfl, hw.done⟩)
   ·refine J39 ?_;refine kif (fun c30 => ?_) (fun c30 => ?_);·refine J24 ?_; refine J3 ?_; refine J3 ?_; refine J3 ?_; refine J52 ?_;refine k_rt Tryz.results155 (fun w hw => ?_);(exact ⟨by simp only [Nd.own, beq_iff_eq, *, if_true, if_false]; rfl, hw.done⟩)
    ·refine J39 ?_;refine kif (fun c41 => ?_) (fun c41 => ?_);·refine J24 ?_; refine J3 ?_; refine J3 ?_; refine J3 ?_; refine J3 ?_; refine J52 ?_;refine k_rt Tryz.results155 (fun w hw => ?_);(exact ⟨by simp only [Nd.own, beq_iff_eq, *, if_true, if_false]; rfl, hw.done⟩)
     ·refine J39 ?_;refine kif (fun c54 => ?_) (fun c54 => ?_);·refine J24 ?_; refine J3 ?_; refine J3 ?_; refine J3 ?_; refine J52 ?_;refine k_rt Tryz.results155 (fun w hw => ?_);(exact ⟨by simp only [Nd.own, beq_iff_eq, *, if_true, if_false]; rfl, hw.done⟩)
      ·refine J39 ?_;refine kif (fun c65 => ?_) (fun c65 => ?_);·refine J24 ?_; refine J3 ?_; refine J52 ?_;refine k_rt Tryz.results155 (fun w hw => ?_);(exact ⟨by simp only [Nd.own, beq_iff_eq, *, if_true, if_false]; rfl, hw.done⟩)
       ·refine J39 ?_;refine kif (fun c72 => ?_) (fun c72 => ?_);·refine J24 ?_; refine J3 ?_; refine J3 ?_; refine J3 ?_; refine J3 ?_; refine J52 ?_;refine k_rt Tryz.results155 (fun w hw => ?_);(exact ⟨by simp only [Nd.own, beq_iff_eq, *, if_true, if_false]; rfl, hw.done⟩)
        ·refine J34 ?_; refine J0 ?_; refine J52 ?_;refine k_rt Tryz.results155 (fun w hw => ?_);(exfalso; omega)
theorem c3_false{n:Nd}{xs:List Int}{ys:List Pr}(h:n.kind=3){k:Nat}(hk:k<xs.length)(hx:xs.getD k 0<1):false=true↔NdValid n xs ys:=by simp only[Bool.false_eq_true,false_iff];intro hv;have:=(ndValid_c3 h hv).2 k hk;omega
theorem c3_true{n:Nd}{xs:List Int}{ys:List Pr}{c:Int}(h:n.kind=3)(he:NdEq n n.own xs (n.xsOwn xs) ys (n.ysOwn ys))(h1:0<=n.main)(h2:0<=n.prev)(h3:0<=n.status)(eo:rOnes n.bm=c)(hp:Pos xs):((xs.length:Int)==c)=true↔NdValid n xs ys:=by rw[beq_iff_eq,<- eo];exact⟨λ hl=>⟨he,h1,h2,h3,.inr (.inr (.inl ⟨h,hl,hp⟩))⟩,λ hv=>(ndValid_c3 h hv).1⟩
theorem refValid_c{n:Nd}{xs:List Int}{ys:List Pr}{w:World}{b:Nat}(hb:n.bm=(b:Int))(hb2:b<18446744073709551616)(hr:Rep w n xs ys) :
  Calls Tryz.prog 106 #[n.v] w λ e w'=>∃r:Bool,e=.returned (.bool r)/\(r=true↔NdValid n xs ys)/\St w [] [] w':=by
 have e1:=hr.brN;have e2:=hr.prN
 obtain⟨kind,gen,main,bm,brA,brN,brC,hash,key,val,prA,prN,prK,prev,old,exp,new,status⟩:=n;simp only at e1 e2 hb;subst e1 e2 hb;have eo:rOnes (b:Int)=((cnt b 64:Nat):Int):=rOnes_cnt hb2;have hxl:=hr.brS;refine enter Tryz.func106 Tryz.ntmps106 rfl rfl (SF.s2 hr.br hr.pr) ?_;simp only[mkS];simp only[Nd.v,Nd.cells];refine J0 ?_;refine j_box (λ x1=>?_);refine J27 ?_;refine k_seq ?_;refine k_dp [(0,[]),(1,[]),(2,[]),(3,[]),(4,[]),(5,[]),(6,[]),(7,[]),(8,[]),(9,[]),(10,[]),(11,[9]),(12,[]),(13,[]),(14,[]),(15,[]),(16,[]),(17,[]),(18,[]),(19,[]),(20,[]),(21,[]),(22,[]),(23,[]),(24,[]),(25,[]),(26,[]),(27,[]),(28,[]),(29,[])] ?_;refine J15 ?_;refine r_lss ?_;refine r_move ?_;(refine rcs 7 (λ g7=>?_) (λ g7=>?_)<;>(first|refine r_un ?_|(refine r_fieldAddr ?_)));all_goals ((first|refine r_un ?_|(refine r_load ?_));(first|refine r_un ?_|(refine r_gtr ?_));refine Ke1 ?_)
 all_goals (first|refine r_un ?_|(refine rcs 12 (λ g12=>?_) (λ g12=>?_)<;>(first|refine r_un ?_|(refine r_load ?_))))
 all_goals ((first|refine r_un ?_|(refine r_load ?_));(first|refine r_un ?_|(refine r_own (i:=11) (hq:=(cV (hc:=λ w1 hw=>only_c (⟨kind,gen,main,(b:Int),brA,xs.length,brC,hash,key,val,prA,ys.length,prK,prev,old,exp,new,status⟩:Nd) (show(1:Int)<=kind by omega) (show kind<=8 by omega) w1))) (h:=λ x15=>?_)));(first|refine r_un ?_|(refine r_ownF (i:=12) (hq:=(c0 (V:=.bool) (hc:=λ w1 hw=>refEq_c (a:=(⟨kind,gen,main,(b:Int),brA,xs.length,brC,hash,key,val,prA,ys.length,prK,prev,old,exp,new,status⟩:Nd)) (b:=((⟨kind,gen,main,(b:Int),brA,xs.length,brC,hash,key,val,prA,ys.length,prK,prev,old,exp,new,status⟩:Nd)).own) (hr.keep0 hw.done) (hr.keep0 hw.done).own))) (h:=λ x16 h16=>?_)));(first|refine r_un ?_|(refine r_not ?_));refine Ke1 ?_)
 all_goals (first|refine r_un ?_|(refine rcs 19 (λ g19=>?_) (λ g19=>?_)<;>(first|refine r_un ?_|(refine r_fieldAddr ?_))))
 all_goals ((first|refine r_un ?_|(refine r_load ?_));(first|refine r_un ?_|(refine r_lss ?_));refine Ke1 ?_)
 all_goals (first|refine r_un ?_|(refine rcs 24 (λ g24=>?_) (λ g24=>?_)<;>(first|refine r_un ?_|(refine r_fieldAddr ?_))))
 all_goals ((first|refine r_un ?_|(refine r_load ?_));(first|refine r_un ?_|(refine r_lss ?_));refine Ke1 ?_)
 all_goals (first|refine r_un ?_|(refine rcs 29 (λ g29=>?_) (λ g29=>?_)<;>(first|refine r_un ?_|(refine r_fieldAddr ?_))))
 all_goals ((first|refine r_un ?_|(refine r_load ?_));(first|refine r_un ?_|(refine r_lss ?_));refine r_pick ?_;refine r_fin ?_)
 all_goals
 refine kif (λ c33=>?_) (λ c33=>?_)
 ·all_goals refine J10 ?_
  all_goals refine k_rv Tryz.results106 (λ w hw=>?_);refine⟨_,rfl,?_,hw.done⟩;first|(simp_all[NdValid];done)|(simp_all[NdValid];omega)
 ·try exact nv c33
  all_goals (refine J16 ?_;refine J24 ?_;refine Kd2 ?_;refine J39 ?_)
  all_goals
   refine kif (λ c36=>?_) (λ c36=>?_);·refine J24 ?_;refine j_geq ?_;refine J1 ?_;refine k_rv Tryz.results106 (λ w hw=>?_);refine⟨_,rfl,?_,hw.done⟩;(simp_all[NdValid];done)
   ·refine J39 ?_;refine kif (λ c41=>?_) (λ c41=>?_)
    ·refine k_seq ?_;refine J69 ?_;refine k_loopC [2,3,43,44,45,46,47,48,49,50,51,52,53,54,55] (λ k=>[(3,.int .i64 ((k:Nat):Int))]) (λ k=>k<=xs.length/\∀i,i<k->1<=xs.getD i 0) (λ k=>xs.length-k) (0) (⟨Nat.zero_le _,λ i hi=>absurd hi (Nat.not_lt_zero i)⟩) ?_ (λ k f hx=>?_);·repeat (first|exact knows_nil _|refine knows_cons (by exact rfl) ?_)
     dsimp only[mkU,List.map,List.cons_append,List.nil_append];refine J32 ?_;refine J85 ?_;refine J47 ?_;refine kif (λ c47=>?_) (λ c47=>?_)
     ·refine J37 ?_;refine Kc4 ?_;refine J53 ?_;refine J47 ?_;refine kif (λ c55=>?_) (λ c55=>?_);·refine J10 ?_;refine k_rv Tryz.results106 (λ w hw=>?_);refine⟨_,rfl,?_,hw.done⟩;exact c3_false c41 (k:=k) (by omega) (by assumption)
      ·refine Kd1 ?_;refine k_roundC (k+1) ?_ ?_ ?_;·omega
       ·repeat' (first|exact knows_nil _|refine knows_cons ?_ ?_)
        exact rfl
       ·exact⟨by omega,λ i hi=>by rcases Nat.lt_succ_iff_lt_or_eq.1 hi with h|rfl;exact hx.2 i h;omega⟩
     ·refine k_exit rfl ?_;refine k_seq ?_;refine k_dp [(0,[]),(1,[]),(2,[]),(3,[]),(4,[]),(5,[1]),(6,[]),(7,[])] ?_;refine J15 ?_;refine r_len ?_;refine J15 ?_;refine r_own (i:=5) (hq:=(cV (hc:=λ w1 hw=>refCount_c hb2 w1))) (h:=λ x61=>?_);refine r_eql ?_;refine J7 ?_;refine k_rv Tryz.results106 (λ w hw=>?_);refine⟨_,rfl,?_,hw.done⟩;exact c3_true c41 (h16.1 (by simpa using g19)) (show 0<=main by omega) (show 0<=prev by omega) (show 0<=status by omega) eo (λ i hi=>hx.2 i (by omega))
    ·refine k_seq ?_;refine J39 ?_;refine kif (λ c63=>?_) (λ c63=>?_)
     ·refine k_skip ?_;refine kif (λ c63=>?_) (λ c63=>?_);·refine J24 ?_;refine j_lenStr ?_;refine j_leq ?_;refine J1 ?_;refine k_rv Tryz.results106 (λ w hw=>?_);refine⟨_,rfl,?_,hw.done⟩;(simp_all[NdValid];omega)
      ·refine J39 ?_;refine kif (λ c70=>?_) (λ c70=>?_)
       ·refine J24 ?_;refine j_len ?_;refine j_geq ?_;refine j_move ?_;(refine lcs 76 (λ g76=>?_) (λ g76=>?_)<;>refine Ka1 ?_);all_goals (refine Ka2 ?_;(first|refine j_un ?_|(refine j_yes ?_;refine j_ownF (c0 (V:=.bool) (hc:=λ w1 hw=>refPrValid_c (hw.cl fin) hr.prS)) (λ x79 h79=>?_)));refine Ka4 ?_)
        all_goals (first|refine j_un ?_|(refine lcs 81 (λ g81=>?_) (λ g81=>?_)<;>refine Ka1 ?_))
        all_goals (refine Ka2 ?_;(first|refine j_un ?_|(refine j_yes ?_;refine j_ownF (c0 (V:=.bool) (hc:=λ w1 hw=>keys_c (hw.cl fin) hr.prS)) (λ x84 h84=>?_)));refine Kc6 ?_)
        all_goals
        refine k_rv Tryz.results106 (λ w hw=>?_);refine⟨_,rfl,?_,hw.done⟩;(simp_all[NdValid];done)
       ·refine J39 ?_;refine kif (λ c86=>?_) (λ c86=>?_);·refine J24 ?_;refine j_geq ?_;refine J1 ?_;refine k_rv Tryz.results106 (λ w hw=>?_);refine⟨_,rfl,?_,hw.done⟩;(simp_all[NdValid];done)
        ·refine J39 ?_;refine kif (λ c91=>?_) (λ c91=>?_)
         ·refine J24 ?_;refine j_geq ?_;refine j_move ?_;(refine lcs 96 (λ g96=>?_) (λ g96=>?_)<;>refine Ka1 ?_);all_goals (refine J86 ?_;refine Ka4 ?_)
          all_goals (first|refine j_un ?_|(refine lcs 101 (λ g101=>?_) (λ g101=>?_)<;>refine Ka1 ?_))
          all_goals (refine J86 ?_;refine Kc6 ?_)
          all_goals
          refine k_rv Tryz.results106 (λ w hw=>?_);refine⟨_,rfl,?_,hw.done⟩;(simp_all[NdValid];done)
         ·refine Kb7 ?_;refine k_rv Tryz.results106 (λ w hw=>?_);refine⟨_,rfl,?_,hw.done⟩;(simp_all[NdValid];done)
     ·refine k_region ?_;refine J28 ?_;refine kif (λ c63=>?_) (λ c63=>?_);·refine J24 ?_;refine j_lenStr ?_;refine j_leq ?_;refine J1 ?_;refine k_rv Tryz.results106 (λ w hw=>?_);refine⟨_,rfl,?_,hw.done⟩;(simp_all[NdValid];omega)
      ·refine J39 ?_;refine kif (λ c70=>?_) (λ c70=>?_)
       ·refine J24 ?_;refine j_len ?_;refine j_geq ?_;refine j_move ?_;(refine lcs 76 (λ g76=>?_) (λ g76=>?_)<;>refine Ka1 ?_);all_goals (refine Ka2 ?_;(first|refine j_un ?_|(refine j_yes ?_;refine j_ownF (c0 (V:=.bool) (hc:=λ w1 hw=>refPrValid_c (hw.cl fin) hr.prS)) (λ x79 h79=>?_)));refine Ka4 ?_)
        all_goals (first|refine j_un ?_|(refine lcs 81 (λ g81=>?_) (λ g81=>?_)<;>refine Ka1 ?_))
        all_goals (refine Ka2 ?_;(first|refine j_un ?_|(refine j_yes ?_;refine j_ownF (c0 (V:=.bool) (hc:=λ w1 hw=>keys_c (hw.cl fin) hr.prS)) (λ x84 h84=>?_)));refine Kc6 ?_)
        all_goals
        refine k_rv Tryz.results106 (λ w hw=>?_);refine⟨_,rfl,?_,hw.done⟩;first|(simp_all[NdValid];done)|(simp_all[NdValid];omega)
       ·refine J39 ?_;refine kif (λ c86=>?_) (λ c86=>?_);·refine J24 ?_;refine j_geq ?_;refine J1 ?_;refine k_rv Tryz.results106 (λ w hw=>?_);refine⟨_,rfl,?_,hw.done⟩;(simp_all[NdValid];done)
        ·refine J39 ?_;refine kif (λ c91=>?_) (λ c91=>?_)
         ·refine J24 ?_;refine j_geq ?_;refine j_move ?_;(refine lcs 96 (λ g96=>?_) (λ g96=>?_)<;>refine Ka1 ?_);all_goals (refine J86 ?_;refine Ka4 ?_)
          all_goals (first|refine j_un ?_|(refine lcs 101 (λ g101=>?_) (λ g101=>?_)<;>refine Ka1 ?_))
          all_goals (refine J86 ?_;refine Kc6 ?_)
          all_goals
          refine k_rv Tryz.results106 (λ w hw=>?_);refine⟨_,rfl,?_,hw.done⟩;first|(simp_all[NdValid];done)|(simp_all[NdValid];omega)
         ·refine Kb7 ?_;refine k_rv Tryz.results106 (λ w hw=>?_);refine⟨_,rfl,?_,hw.done⟩;(simp_all[NdValid];omega)
end
end Go.Proofs.YtdnklbipddigbaaGreat
namespace Go.Ct
open Go Go.RowKit
section
end
end Go.Ct
namespace Go.Proofs.YtdnklbipddigbaaGreat
open Go.Proofs.Tryz (prog)
section
open Go.RowKit Go.Ct
def CV(n:Nd)(xs:List Int)(ys:List Pr):Prop:=n.kind=3/\NdValid n xs ys
theorem CV.bv{n:Nd}{xs:List Int}{ys:List Pr}{b:Nat}(h:CV n xs ys)(hb:n.bm=(b:Int))(hb2:b<18446744073709551616):BV b xs:=by obtain⟨h1,h2⟩:=ndValid_c3 h.1 h.2;rw[hb,rOnes_cnt hb2] at h1;exact⟨hb2,by omega,h2⟩
open Classical in
noncomputable def lkO (n:Nd) (xs:List Int) (ys:List Pr) (b:Nat) (i:Int):Option Int:=if CV n xs ys/\hasI b i=true then some (xs.getD (posN b i) 0) else none
open Classical in
noncomputable def soO (n:Nd) (xs:List Int) (ys:List Pr):Option Int:=if CV n xs ys/\xs.length=1 then some (xs.getD 0 0) else none
theorem hasI_elim{b:Nat}{i:Int}(h:hasI b i=true):0<=i/\i<64/\b.testBit i.toNat=true/\posN b i=cnt b i.toNat:=by simp only[hasI,Bool.and_eq_true,decide_eq_true_eq] at h;exact⟨h.1,h.2.1,h.2.2,by unfold posN;congr 1;omega⟩
theorem bv_lt{b:Nat}{xs:List Int}(h:BV b xs){i:Int}(hh:hasI b i=true):posN b i<xs.length:=by obtain⟨h1,h2,h3,h4⟩:=hasI_elim hh;rw[h4,h.len];exact cnt_lt (by omega) h3
section
variable{n:Nd}{xs:List Int}{ys:List Pr}{w:World}{b:Nat}
theorem cis_c(hb:n.bm=(b:Int))(hb2:b<18446744073709551616)(hr:Rep w n xs ys):Calls prog 231 #[n.v] w λ e w'=>∃r:Bool,e=.returned (.bool r)/\(r=true↔CV n xs ys)/\St w [] [] w':=by
 refine enter Tryz.func231 Tryz.ntmps231 rfl rfl (SF.s0 w) ?_;simp only[mkS];simp only[Nd.v,Nd.cells];refine J0 ?_;refine j_box (λ x1=>?_);refine J1 ?_;refine J24 ?_;refine Kd4 ?_;(refine lcs 6 (λ g6=>?_) (λ g6=>?_)<;>refine Ka2 ?_);all_goals ((first|refine j_un ?_|(refine j_yes ?_;refine j_ownF (c0 (V:=.bool) (hc:=λ w1 hw=>refValid_c (n:=n) hb hb2 (hr.keep0 hw.done))) (λ x8 h8=>?_)));refine Kc6 ?_)
 all_goals
 refine k_rv Tryz.results231 (λ w hw=>?_);refine⟨_,rfl,?_,hw.done⟩;simp_all[CV]
theorem refLookup_c(i:Int)(hb:n.bm=(b:Int))(hb2:b<18446744073709551616)(hr:Rep w n xs ys):Calls prog 208 #[n.v,.int .i64 i] w λ e w'=>e=.returned (.tuple #[.int .i64 ((lkO n xs ys b i).getD 0),.bool (lkO n xs ys b i).isSome])/\St w [] [] w':=by
 have e1:=hr.brN;refine enter Tryz.func208 Tryz.ntmps208 rfl rfl (SF.s2 hr.br hr.pr) ?_;simp only[mkS];simp only[Nd.v,Nd.cells,hb,e1];refine J0 ?_;refine j_box (λ x2=>?_);refine Kd8 ?_;refine J25 ?_;refine j_ownF (c0 (V:=.bool) (hc:=λ w1 hw=>by rw[<- e1,<- hb];exact cis_c (n:=n) hb hb2 (hr.keep0 hw.done))) (λ x7 h7=>?_);refine J59 ?_;(refine lcs 9 (λ g9=>?_) (λ g9=>?_)<;>refine Ka1 ?_);all_goals (refine J29 ?_;(first|refine j_un ?_|(refine j_yes ?_;refine j_own (cV (hc:=λ w1 hw=>refHas_c hb2 i w1)) (λ x13=>?_)));refine Kd3 ?_)
 all_goals
 refine kif (λ c15=>?_) (λ c15=>?_)
 ·all_goals refine J66 ?_
  all_goals refine k_rt Tryz.results208 (λ w hw=>?_);rw[show lkO n xs ys b i=none from if_neg (by simp_all)];exact⟨rfl,hw.done⟩
 ·try exact nv c15
  all_goals have hcv:CV n xs ys:=h7.1 (by simpa using g9);have hpl:=bv_lt (hcv.bv hb hb2) c15
  all_goals (refine J16 ?_;refine k_dp [(0,[]),(1,[]),(2,[]),(3,[]),(4,[]),(5,[1]),(6,[]),(7,[]),(8,[]),(9,[])] ?_;refine J15 ?_;refine Kf7 ?_;refine r_own (i:=5) (hq:=(cV (hc:=λ w1 hw=>refPos_c hb2 i w1))) (h:=λ x21=>?_);refine J48 ?_;refine J55 ?_)
  all_goals refine k_rt Tryz.results208 (λ w hw=>?_);rw[show lkO n xs ys b i=some (xs.getD (posN b i) 0) from if_pos ⟨hcv,c15⟩];exact⟨rfl,hw.done⟩
theorem refSole_c(hb:n.bm=(b:Int))(hb2:b<18446744073709551616)(hr:Rep w n xs ys):Calls prog 233 #[n.v] w λ e w'=>e=.returned (.tuple #[.int .i64 ((soO n xs ys).getD 0),.bool (soO n xs ys).isSome])/\St w [] [] w':=by
 have e1:=hr.brN;refine enter Tryz.func233 Tryz.ntmps233 rfl rfl (SF.s2 hr.br hr.pr) ?_;simp only[mkS];simp only[Nd.v,Nd.cells,e1];refine J0 ?_;refine j_box (λ x1=>?_);refine Kd8 ?_;refine J25 ?_;refine j_ownF (c0 (V:=.bool) (hc:=λ w1 hw=>by rw[<- e1];exact cis_c (n:=n) hb hb2 (hr.keep0 hw.done))) (λ x5 h5=>?_);refine J59 ?_;(refine lcs 7 (λ g7=>?_) (λ g7=>?_)<;>refine Ka1 ?_);all_goals (refine Ka2 ?_;(first|refine j_un ?_|(refine j_yes ?_;refine j_len ?_));refine J38 ?_;refine l_nil ?_)
 all_goals
 refine kif (λ c12=>?_) (λ c12=>?_)
 ·all_goals refine J66 ?_
  all_goals refine k_rt Tryz.results233 (λ w hw=>?_);rw[show soO n xs ys=none from if_neg (by simp_all;try omega)];exact⟨rfl,hw.done⟩
 ·try exact nv c12
  all_goals have hcv:CV n xs ys:=h5.1 (by simpa using g7);have hl1:xs.length=1:=by omega
  all_goals (refine k_skip ?_;refine J24 ?_;refine l_quiet (o_indexR (k:=0) rf rf sl1 on1 fin (by omega) (by omega)) rfl ?_;refine j_load ?_;refine J8 ?_)
  all_goals refine k_rt Tryz.results233 (λ w hw=>?_);rw[show soO n xs ys=some (xs.getD 0 0) from if_pos ⟨hcv,hl1⟩];exact⟨rfl,hw.done⟩
end
end
section
open Go.RowKit Go.Ct
def cn(b:Nat)(xs:List Int)(x:Option Addr×Nat):Nd:={Nd.zero with kind:=3,bm:=(b:Int),brA:=x.1,brN:=xs.length,brC:=x.2}
theorem cv_cn{b:Nat}{xs:List Int}(h:BV b xs)(x:Option Addr×Nat){p:Int}(hp:0<=p):CV {cn b xs x with prev:=p} xs [] :=⟨rfl,by simp[NdEq,Nd.own,Nd.xsOwn,Nd.ysOwn,cn],by simp[cn,Nd.zero],hp,by simp[cn,Nd.zero],.inr (.inr (.inl ⟨rfl,by show(xs.length:Int)=rOnes (b:Int);rw[rOnes_cnt h.lt,h.len],h.pos⟩))⟩
theorem cv_cn0{b:Nat}{xs:List Int}(h:BV b xs)(x:Option Addr×Nat):CV (cn b xs x) xs []:=cv_cn h x (p:=0) (Int.le_refl _)
end
section
open Go.RowKit Go.Ct
theorem SF.frz{w w':World}{F:Fr}{o:Ow}(h:SF w [] [] [] F [o] w'):SF w [] [] [] ((o.p,o.cs)::F) [] w':=h.freeze .head (by simp)
theorem SF.frz2{w w':World}{F:Fr}{o o2:Ow}(h:SF w [] [] [] F [o,o2] w'):SF w [] [] [] ((o2.p,o2.cs)::(o.p,o.cs)::F) [] w':=(h.freeze .head (by simp)).freeze .head (by simp)
theorem bytes_pair:bytesLe prog 106 24=true:=by kernel_rfl
theorem bytes_ref:bytesLe prog 28 8=true:=by kernel_rfl
theorem copiedP_o{l:List Pr}{a:Option Addr}{c:Nat}{w:World}(ha:Cl w a (prC l))(hl:l.length<=11728124029610):Calls prog 104 #[.slice a l.length c] w λ e w' =>
  ∃p:Option Addr,e=.returned (.slice p l.length l.length)/\(l=[]->p=none)/\SF w [] [] [] [] [⟨p,prC l,l.length,106,2⟩] w':=by
 refine enter Tryz.func104 Tryz.ntmps104 rfl rfl (SF.s1 ha) ?_;simp only[mkS];refine Kc2 ?_;refine j_len ?_;refine J50 ?_;refine kif (λ c6=>?_) (λ c6=>?_);·have hl0:l=[]:=List.eq_nil_of_length_eq_zero (by omega);subst hl0;refine J10 ?_;refine k_rv Tryz.results104 (λ w hw=>?_);exact⟨none,rfl,λ _=>rfl,(hw.nilOwn 106 2).finH⟩
 ·refine Ka8 ?_;refine j_len ?_;refine j_own (o_makePW rf rf ep1 bytes_pair om om) (λ x9=>?_);refine J73 ?_;refine j_copy (λ x12=>?_);refine l_nil ?_;refine Kb2 ?_;refine k_rv Tryz.results104 (λ w hw=>?_);exact⟨some ⟨x9,0,none⟩,rfl,λ h=>absurd (congrArg List.length h) (by simpa using c6),by simpa using hw.finH (H':=[]) (F':=[])⟩
theorem copiedR_o{l:List Int}{a:Option Addr}{c:Nat}{w:World}(ha:Cl w a (refsC l))(hl:l.length<=35184372088832):Calls prog 103 #[.slice a l.length c] w λ e w' =>
  ∃p:Option Addr,e=.returned (.slice p l.length l.length)/\(l=[]->p=none)/\SF w [] [] [] [] [⟨p,refsC l,l.length,28,1⟩] w':=by
 refine enter Tryz.func103 Tryz.ntmps103 rfl rfl (SF.s1 ha) ?_;simp only[mkS];refine Kc2 ?_;refine j_len ?_;refine J50 ?_;refine kif (λ c6=>?_) (λ c6=>?_);·have hl0:l=[]:=List.eq_nil_of_length_eq_zero (by omega);subst hl0;refine J10 ?_;refine k_rv Tryz.results103 (λ w hw=>?_);exact⟨none,rfl,λ _=>rfl,(hw.nilOwn 28 1).finH⟩
 ·refine Ka8 ?_;refine j_len ?_;refine j_own (o_makeRW rf rf er1 bytes_ref om om) (λ x9=>?_);refine J73 ?_;refine j_copy (λ x12=>?_);refine l_nil ?_;refine Kb2 ?_;refine k_rv Tryz.results103 (λ w hw=>?_);exact⟨some ⟨x9,0,none⟩,rfl,λ h=>absurd (congrArg List.length h) (by simpa using c6),by simpa using hw.finH (H':=[]) (F':=[])⟩
theorem clone_o{n:Nd}{xs:List Int}{ys:List Pr}{w:World}(hr:Rep w n xs ys)(h1:xs.length<=35184372088832)(h2:ys.length<=11728124029610):Calls prog 64 #[n.v] w λ e w' =>
  ∃p:Option Addr×Option Addr,e=.returned ({n with brA:=p.1,brC:=xs.length,prA:=p.2,prC:=ys.length}:Nd).v/\((xs=[]->p.1=none)/\(ys=[]->p.2=none))/\SF w [] [] [] [] [⟨p.2,prC ys,ys.length,106,2⟩,⟨p.1,refsC xs,xs.length,28,1⟩] w':=by
 have e1:=hr.brN;have e2:=hr.prN
 refine enter Tryz.func64 Tryz.ntmps64 rfl rfl (SF.s2 hr.br hr.pr) ?_;simp only[mkS];simp only[Nd.v,Nd.cells];refine J0 ?_;refine j_box (λ x1=>?_);refine j_alloc (λ x2=>?_);refine l_nil ?_;refine J24 ?_;refine j_ownF (cFH (Hc:=λ _=>[]) (Fc:=λ _=>[]) (hc:=λ w1 hw=>by rw[e1];exact copiedR_o (hw.cl fin) h1)) (λ x5 h5=>?_);refine J23 ?_;refine J24 ?_;refine j_ownF (cFH (Hc:=λ _=>[]) (Fc:=λ _=>[]) (hc:=λ w1 hw=>by rw[e2];exact copiedP_o (hw.cl fin) h2)) (λ x9 h9=>?_);refine J23 ?_;refine J25 ?_;refine J5 ?_;refine k_rt Tryz.results64 (λ w hw=>?_);exact⟨(x5,x9),by rw[e1,e2];rfl,⟨h5,h9⟩,hw.finH⟩
theorem clone_c{n:Nd}{xs:List Int}{ys:List Pr}{w:World}(hr:Rep w n xs ys)(h1:xs.length<=35184372088832)(h2:ys.length<=11728124029610):Calls prog 64 #[n.v] w λ e w' =>
  ∃p:Option Addr×Option Addr,e=.returned ({n with brA:=p.1,brC:=xs.length,prA:=p.2,prC:=ys.length}:Nd).v/\((xs=[]->p.1=none)/\(ys=[]->p.2=none))/\SF w [] [] [] [(p.1,refsC xs),(p.2,prC ys)] [] w':=(clone_o hr h1 h2).mono λ _ _ ⟨p,he,hp,hs⟩=>⟨p,he,hp,SF.frz2 hs⟩
end
end Go.Proofs.YtdnklbipddigbaaGreat
