/- Merged. -/
import Derived.Test.YtdnklbipddigbaaGreatGTape
import Derived.Test.YtdnklbipddigbaaGreatGAr9
import Derived.Test.YtdnklbipddigbaaGreatGNode8
set_option linter.unusedSimpArgs false
set_option linter.unusedVariables false
namespace Go.Proofs.YtdnklbipddigbaaGreat
section
open Go.RowKit Go.Ct
end
section
open Go.Ct
end
end Go.Proofs.YtdnklbipddigbaaGreat
namespace Go.Ct
section
end
end Go.Ct
namespace Go.Proofs.YtdnklbipddigbaaGreat
open Go.RowKit Go.Ct
section
end
end Go.Proofs.YtdnklbipddigbaaGreat
namespace Go.Ct
section
theorem cellK_some{n:Nd}:(cellK n).isSome=true↔n.kind=2∨n.kind=3∨n.kind=5∨n.kind=6∨n.kind=8:=by
 unfold cellK;split;·simp_all
 ·split;·simp_all;omega
  ·split;·simp_all
   ·simp_all
def sumK(n:Nd):Int:=Go.IntKind.i64.wrap (Go.IntKind.i64.wrap (n.main+n.prev)+n.status)
theorem sumK_eq{n:Nd}{xs:List Int}{ys:List Pr}(h:NdValid n xs ys)(hr:NdR n){c:Int}(hc:cellK n=some c):sumK n=c:=by
 obtain⟨e,h1,h2,h3,_⟩:=h;have e':=ndEq_iff.1 e;obtain⟨_,m1,m2,m3⟩:=hr;simp only[Nd.c,Nv.mk.injEq] at e';obtain⟨_,_,em,_,_,_,_,_,_,ep,_,_,_,es⟩:=e';unfold cellK at hc;unfold sumK;split at hc
 ·rename_i hk;simp only[Option.some.injEq] at hc;have a:n.prev=0:=by rw[ep];simp[Nd.own,hk,Nd.zero]
  have b:n.status=0:=by rw[es];simp[Nd.own,hk,Nd.zero]
  rw[wrap_i64 (i:=n.main+n.prev) (by omega) (by omega),wrap_i64 (by omega) (by omega)];omega
 ·split at hc
  ·rename_i hk;simp only[Option.some.injEq] at hc;have a:n.main=0:=by rw[em];rcases hk with hk|hk|hk<;>simp[Nd.own,hk,Nd.zero]
   have b:n.status=0:=by rw[es];rcases hk with hk|hk|hk<;>simp[Nd.own,hk,Nd.zero]
   rw[wrap_i64 (i:=n.main+n.prev) (by omega) (by omega),wrap_i64 (by omega) (by omega)];omega
  ·split at hc
   ·rename_i hk;simp only[Option.some.injEq] at hc;have a:n.main=0:=by rw[em];simp[Nd.own,hk,Nd.zero]
    have b:n.prev=0:=by rw[ep];simp[Nd.own,hk,Nd.zero]
    rw[wrap_i64 (i:=n.main+n.prev) (by omega) (by omega),wrap_i64 (by omega) (by omega)];omega
   ·cases hc
end
end Go.Ct
namespace Go.Proofs.YtdnklbipddigbaaGreat
open Go.RowKit Go.Ct
section
theorem knownP_c{xs:List Int}{N c:Nat}{a:Option Addr}{w:World}(ha:Cl w a (refsC xs))(hx:xs.length<4611686018427387904) :
  Calls Tryz.prog 105 #[.int .i64 ((N:Nat):Int),.slice a xs.length c] w λ e w'=>∃r:Bool,e=.returned (.bool r)/\(r=true↔∀i,i<xs.length->Ins (xs.getD i 0) N)/\St w [] [] w':=by
 refine enter Tryz.func105 Tryz.ntmps105 rfl rfl (SF.s1 ha) ?_;simp only[mkS];refine J75 ?_;refine J69 ?_;refine k_loopC [4,5,6,7,8,9,10,11,12,13,14,15,16,17,18,19,20,21,22,23,24] (λ k=>[(5,.int .i64 ((k:Nat):Int))]) (λ k=>k<=xs.length/\∀i,i<k->Ins (xs.getD i 0) N) (λ k=>xs.length-k) (0) (⟨Nat.zero_le _,λ i hi=>absurd hi (Nat.not_lt_zero i)⟩) ?_ (λ k f hx=>?_);·repeat (first|exact knows_nil _|refine knows_cons (by exact rfl) ?_)
 dsimp only[mkU,List.map,List.cons_append,List.nil_append];refine Kf0 ?_;refine J47 ?_;refine kif (λ c9=>?_) (λ c9=>?_)
 ·refine J37 ?_;refine J11 ?_;refine J53 ?_;refine J64 ?_;(refine lcs 17 (λ g17=>?_) (λ g17=>?_)<;>refine Ka0 ?_);all_goals (refine Ka0 ?_;(first|refine j_un ?_|(refine j_yes ?_;refine j_indexAddr ?_));refine J29 ?_;refine Ka6 ?_)
  all_goals
  refine kif (λ c24=>?_) (λ c24=>?_)
  ·all_goals refine J10 ?_
   all_goals refine k_rv Tryz.results105 (λ w hw=>?_);exact⟨false,rfl,⟨(λ h=>nomatch h),λ h=>by have h1:=h k (by omega);obtain⟨h2,h3⟩:=h1;exfalso;omega⟩,hw.done⟩
  ·try exact nv c24
   all_goals (refine Kd1 ?_)
   all_goals
    refine k_roundC (k+1) ?_ ?_ ?_;·omega
    ·repeat' (first|exact knows_nil _|refine knows_cons ?_ ?_)
     exact rfl
    ·exact⟨by omega,λ i hi=>by rcases Nat.lt_succ_iff_lt_or_eq.1 hi with h|rfl;exact hx.2 i h;exact⟨by omega,by omega⟩⟩
 ·refine k_exit rfl ?_;refine J10 ?_;refine k_rv Tryz.results105 (λ w hw=>?_);exact⟨true,rfl,⟨λ _ i hi=>hx.2 i (by omega),λ _=>rfl⟩,hw.done⟩
theorem memHas_c(n:Nd)(w:World):Calls Tryz.prog 107 #[.int .i64 n.kind] w λ e w'=>e=.returned (.bool (cellK n).isSome)/\St w [] [] w':=by
 refine enter Tryz.func107 Tryz.ntmps107 rfl rfl (SF.s0 w) ?_;simp only[mkS];refine J10 ?_;refine J2 ?_;refine Kd4 ?_;(refine lcs 5 (λ g5=>?_) (λ g5=>?_)<;>refine Ka0 ?_);all_goals (refine Ka5 ?_)
 all_goals (first|refine j_un ?_|(refine lcs 9 (λ g9=>?_) (λ g9=>?_)<;>refine Ka0 ?_))
 all_goals (refine Ka5 ?_)
 all_goals (first|refine j_un ?_|(refine lcs 13 (λ g13=>?_) (λ g13=>?_)<;>refine Ka0 ?_))
 all_goals (refine Ka5 ?_)
 all_goals (first|refine j_un ?_|(refine lcs 17 (λ g17=>?_) (λ g17=>?_)<;>refine Ka0 ?_))
 all_goals (refine J12 ?_;refine J1 ?_)
 all_goals
 refine k_rv Tryz.results107 (λ w hw=>?_);refine⟨?_,hw.done⟩;first|(rw[cellK_some.2 (by omega)];rfl)|(rw[show(cellK n).isSome=(n.kind==8) from by rw[Bool.eq_iff_iff,beq_iff_eq,cellK_some];omega];rfl)
theorem cellSum_c(n:Nd)(w:World):Calls Tryz.prog 108 #[n.v] w λ e w'=>e=.returned (.int .i64 (sumK n))/\St w [] [] w':=by refine enter Tryz.func108 Tryz.ntmps108 rfl rfl (SF.s0 w) ?_;simp only[mkS];simp only[Nd.v,Nd.cells];refine J0 ?_;refine j_box (λ x1=>?_);refine J1 ?_;refine J24 ?_;refine J3 ?_;refine l_quiet (o_add rf rf) rfl ?_;refine J3 ?_;refine l_quiet (o_add rf rf) rfl ?_;refine J1 ?_;refine k_rv Tryz.results108 (λ w hw=>?_);exact⟨rfl,hw.done⟩
set_option maxRecDepth 100000 in
theorem refProper_c{L:List NdV}{cs:List Int}{gen:Int}{pn pc:Option Addr}{cn cc:Nat}{w:World}(h:StAt w L cs pn pc)(hR:Rngs L)(hL:L.length<=274877906944)(hC:cs.length<=274877906944) :
    Calls Tryz.prog 68 #[.agg ⟨[.slice pn L.length cn,.slice pc cs.length cc,.int .i64 gen]⟩] w λ e w'=>∃r:Bool,e=.returned (.bool r)/\(r=true↔Proper L cs gen)/\St w [] [] w':=by
     refine enter Tryz.func68 Tryz.ntmps68 rfl rfl h.start ?_;simp only[mkS];refine J0 ?_;refine j_box (λ x1=>?_);refine J1 ?_;refine J24 ?_;refine j_len ?_;refine Ke3 ?_;refine J64 ?_;(refine lcs 13 (λ g13=>?_) (λ g13=>?_)<;>refine Ka1 ?_);all_goals (refine Ka2 ?_;(first|refine j_un ?_|(refine j_yes ?_;refine l_quiet (o_indexV (k:=0) rf rf sl1 ag1 fin (by omega) (by omega)) rfl ?_));refine Ka1 ?_;(first|refine j_un ?_|(refine j_yes ?_;refine l_quiet (o_loadV0 (q:=0) rf on1 fin (by omega)) rfl ?_));refine J38 ?_;refine j_move ?_)
     all_goals (first|refine j_un ?_|(refine lcs 21 (λ g21=>?_) (λ g21=>?_)<;>refine Ka1 ?_))
     all_goals (refine Ka2 ?_;(first|refine j_un ?_|(refine j_yes ?_;refine l_quiet (o_indexV (k:=1) rf rf sl1 ag1 fin (by omega) (by omega)) rfl ?_));refine Ka1 ?_;(first|refine j_un ?_|(refine j_yes ?_;refine l_quiet (o_loadV0 (q:=1) rf on1 fin (by omega)) rfl ?_));refine J38 ?_;refine j_move ?_)
     all_goals (first|refine j_un ?_|(refine lcs 29 (λ g29=>?_) (λ g29=>?_)<;>refine Ka1 ?_))
     all_goals (refine J89 ?_;refine j_move ?_)
     all_goals (first|refine j_un ?_|(refine lcs 34 (λ g34=>?_) (λ g34=>?_)<;>refine Ka0 ?_))
     all_goals (refine J6 ?_;(first|refine j_un ?_|(refine j_yes ?_;refine j_ownF (c0 (V:=.bool) (hc:=λ w1 hw=>knownP_c (hw.cl (.old (.tail .head))) (by omega))) (λ x38 h38=>?_)));refine Kd3 ?_)
     all_goals
      refine kif (λ c40=>?_) (λ c40=>?_)
      ·all_goals refine J10 ?_
       all_goals refine k_rv Tryz.results68 (λ w hw=>?_);exact⟨false,rfl,⟨(λ h=>nomatch h),λ hp=>by have h1:=hp.two;have h2:=hp.gen0;have h3:=hp.m0;have h4:=hp.m1;first|omega|(have h5:=h38.2 hp.cells;simp_all)⟩,hw.done⟩
      ·try exact nv c40
       all_goals (refine k_skip ?_;refine J24 ?_;refine j_len ?_;refine j_makeSlice (λ x44=>?_);refine J27 ?_;refine J69 ?_)
       all_goals
        refine k_lp [2,5,6,7,45,46,47,48,49,50,51,52,53,54,55,56,57,58,59,60,61,62,63,64,65,66,67,68,69,70,71,72,73,74,75,76,77,78,79,80,81,82,83,84,85,86,87,88,89,90,91,92,93,94,95,96,97,98,99,100,101,102,103,104,105,106,107,108,109] (λ y:Nat×List Bool=>[(5,.int .i64 ((y.1:Nat):Int))]) (λ y=>y.1<=L.length/\marks cs.length (L.take y.1)=some y.2/\∀i,i<y.1->NdOk gen L.length (L.getD i NdV.zero)) (λ _=>_) (λ _=>_) (λ y=>[⟨some ⟨x44,0,none⟩,boolsC y.2,cs.length,4,1⟩]) (λ y=>L.length-y.1) ((0,List.replicate cs.length false)) (⟨Nat.zero_le _,rfl,λ i hi=>absurd hi (Nat.not_lt_zero i)⟩) (λ y f hx=>?_);dsimp only[mkU,List.map,List.cons_append,List.nil_append];have hu:=marks_len hx.2.1;refine J65 ?_;refine J47 ?_;refine kif (λ c47=>?_) (λ c47=>?_)
        ·obtain⟨⟨bm,hbm,hbm2⟩,hr1,hr2,hr3⟩:=hR _ (getD_mem (L:=L) (k:=y.1) (by omega));refine J37 ?_;refine Kc4 ?_;refine J53 ?_;refine j_alloc (λ x6=>?_);refine J5 ?_;refine k_seq ?_;refine J25 ?_;refine j_ownF (c0 (V:=.bool) (hc:=λ w1 hw=>refValid_c hbm hbm2 (hw.repA h.fit (by omega)))) (λ x56 h56=>?_);refine J59 ?_;(refine lcs 58 (λ g58=>?_) (λ g58=>?_)<;>refine Ka1 ?_);all_goals (refine J21 ?_;refine Ke7 ?_)
         all_goals (first|refine j_un ?_|(refine lcs 65 (λ g65=>?_) (λ g65=>?_)<;>refine Ka0 ?_))
         all_goals (refine J6 ?_;(first|refine j_un ?_|(refine j_yes ?_;refine j_ownF (c0 (V:=.bool) (hc:=λ w1 hw=>by rw[(hw.repA h.fit (k:=y.1) (by omega)).brN];exact knownP_c (hw.repA h.fit (by omega)).br (hw.repA h.fit (by omega)).brS)) (λ x69 h69=>?_)));refine J31 ?_;refine j_move ?_)
         all_goals (first|refine j_un ?_|(refine lcs 72 (λ g72=>?_) (λ g72=>?_)<;>refine Ka0 ?_))
         all_goals (refine J6 ?_;refine J6 ?_;refine J6 ?_;(first|refine j_un ?_|(refine j_yes ?_;refine j_buildSlice (λ x80=>?_)));(first|refine j_un ?_|(refine j_yes ?_;refine j_ownF (c0 (V:=.bool) (hc:=λ w1 hw=>knownP_c (xs:=[(L.getD y.1 NdV.zero).nd.old,(L.getD y.1 NdV.zero).nd.exp,(L.getD y.1 NdV.zero).nd.new]) (hw.cl (.new .head)) (by simp only[List.length_cons,List.length_nil];decide))) (λ x81 h81=>?_)));refine Kd3 ?_)
         all_goals
          refine kif (λ c83=>?_) (λ c83=>?_)
          ·all_goals refine J10 ?_
           all_goals refine k_rv Tryz.results68 (λ w hw=>?_);refine⟨false,rfl,⟨(λ h=>nomatch h),λ hp=>?_⟩,hw.done⟩;obtain⟨q1,q2,q3,q4,q5,q6⟩:=hp.nodes y.1 (by omega);first|(exfalso;omega)|(have:=h56.2 q1;simp_all;done)|(have:=h81.2 (λ i hi=>by simp only[List.length_cons,List.length_nil] at hi;rcases(show i=0∨i=1∨i=2 by omega) with rfl|rfl|rfl;exact q4;exact q5;exact q6);simp_all;done)
          ·try exact nv c83
           all_goals have hrr:=h81.1 c83;have hok:NdOk gen L.length (L.getD y.1 NdV.zero):=⟨h56.1 g58,by omega,h69.1 g72,hrr 0 (by simp),hrr 1 (by simp),hrr 2 (by simp)⟩
           all_goals (refine J16 ?_;refine J24 ?_;refine j_own (cV (hc:=λ w1 hw=>memHas_c (L.getD y.1 NdV.zero).nd w1)) (λ x86=>?_);refine J33 ?_)
           all_goals
            refine kif (λ c87=>?_) (λ c87=>?_)
            ·have hmk:markS (some y.2) (L.getD y.1 NdV.zero).nd=some y.2:=by
              have e:cellK (L.getD y.1 NdV.zero).nd=none:=by cases hq:cellK (L.getD y.1 NdV.zero).nd<;>simp_all
              simp only[markS,e]
             refine k_exit rfl ?_;refine J70 ?_;refine k_rd ((y.1+1,(markS (some y.2) (L.getD y.1 NdV.zero).nd).getD y.2)) ?_ (hw1:=λ w hw=>by rw[hmk];exact hw.back (hO:=by exact List.Sublist.refl _))
             ·refine⟨by omega,by rw[marks_take (by omega),hx.2.1,hmk];rfl,λ i hi=>?_⟩;rcases Nat.lt_succ_iff_lt_or_eq.1 hi with h|rfl;·exact hx.2.2 i h
              ·exact hok
            ·obtain⟨c,hc⟩:∃c,cellK (L.getD y.1 NdV.zero).nd=some c:=Option.isSome_iff_exists.1 c87;have hs:=sumK_eq hok.1 ⟨⟨bm,hbm,hbm2⟩,hr1,hr2,hr3⟩ hc;refine Kc5 ?_;refine j_own (cV (hc:=λ w1 hw=>cellSum_c (L.getD y.1 NdV.zero).nd w1)) (λ x89=>?_);refine Ke3 ?_;refine J64 ?_;(refine lcs 92 (λ g92=>?_) (λ g92=>?_)<;>refine Ka0 ?_);all_goals (refine J43 ?_;refine Ke7 ?_)
             all_goals (first|refine j_un ?_|(refine lcs 99 (λ g99=>?_) (λ g99=>?_)<;>refine Ka0 ?_))
             all_goals (refine Ka0 ?_;(first|refine j_un ?_|(refine j_yes ?_;refine l_quiet (o_decT rf rf (by omega) (by omega)) rfl ?_));(first|refine j_un ?_|(refine j_yes ?_;refine l_quiet (o_indexB rf rf sl1 on1 fin (by omega) (by omega)) rfl ?_));(first|refine j_un ?_|(refine j_yes ?_;refine l_quiet (o_loadB rf on1 fin (by omega)) rfl ?_));refine Ke8 ?_)
             all_goals
              refine kif (λ c105=>?_) (λ c105=>?_)
              ·all_goals refine J10 ?_
               all_goals
                refine k_rv Tryz.results68 (λ w hw=>?_);refine⟨false,rfl,⟨(λ h=>nomatch h),λ hp=>?_⟩,hw.done⟩;have hm:marks cs.length (L.take (y.1+1))=none:=by rw[marks_take (by omega),hx.2.1];simp only[markS,hc];refine if_neg λ hh=>?_;obtain⟨q1,q2,q3⟩:=hh;first|(exfalso;omega)|(exfalso;rw[hs,q3] at c105;cases c105)
                exact absurd (marks_none hm) hp.marks
              ·try exact nv c105
               all_goals rw[hs] at c105 g92 g99;have hmk:markS (some y.2) (L.getD y.1 NdV.zero).nd=some (y.2.set (c-1).toNat true):=by simp only[markS,hc];rw[if_pos ⟨by omega,by omega,c105⟩]
               all_goals (refine k_skip ?_;refine J76 ?_;refine l_quiet (o_decT rf rf (by omega) (by omega)) rfl ?_;refine l_quiet (o_indexB rf rf sl1 on1 fin (by omega) (by omega)) rfl ?_;refine J5 ?_;refine Kb5 ?_)
               all_goals
                refine k_rd ((y.1+1,(markS (some y.2) (L.getD y.1 NdV.zero).nd).getD y.2)) ?_ (hw1:=λ w hw=>by rw[hmk];(rw[hs] at hw;exact hw.back (hO:=by exact List.Sublist.refl _)))
                ·refine⟨by omega,by rw[marks_take (by omega),hx.2.1,hmk];rfl,λ i hi=>?_⟩;rcases Nat.lt_succ_iff_lt_or_eq.1 hi with h|rfl;·exact hx.2.2 i h
                 ·exact hok
        ·refine k_exit rfl ?_;refine J10 ?_;refine k_rv Tryz.results68 (λ w hw=>?_);have hy:y.1=L.length:=by omega
         have hmm:marks cs.length L=some y.2:=by have:=hx.2.1;rwa [hy,List.take_length] at this
         exact⟨true,rfl,⟨λ _=>⟨by omega,by omega,by omega,by omega,h38.1 (by simp_all),λ i hi=>hx.2.2 i (by omega),by rw[hmm];exact λ h=>nomatch h⟩,λ _=>rfl⟩,hw.done⟩
end
end Go.Proofs.YtdnklbipddigbaaGreat
