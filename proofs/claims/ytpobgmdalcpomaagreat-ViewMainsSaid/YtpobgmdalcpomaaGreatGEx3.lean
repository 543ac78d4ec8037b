/- Executions of the reference: nodes, allocations, cells, generations. -/
import Derived.Test.YtpobgmdalcpomaaGreatEx2

set_option linter.unusedSimpArgs false
set_option linter.unusedVariables false
namespace Go.Proofs.YtpobgmdalcpomaaGreat
open Go Go.RowKit Go.Ct
section
variable{k:Cl}{bx bm:Nat}{x:XS}{dn:Bool}{rs:Rs}{D:List Nat}{A:Fr}{w:World}
theorem xnode_c(r:Int)(hr:r<=9223372036854775807)(ok:x.Ok)(hs:SF w D (xH k bx bm x dn rs) A [] (xW x) w):Calls Tryz.prog 105 #[.pointer (some ⟨bx,0,none⟩),.int .i64 r] w λ e w'=>∃q:Unit,e=.returned (nodeV x.L r).nd.v/\True/\SF w D (xH k bx bm x dn rs) [] [] (xW x) w':=by
 have hl:=ok.lL
 refine enter Tryz.func105 Tryz.ntmps105 rfl rfl (xOpen2 hs) ?_
 simp only[mkS]
 all_goals (refine J0 ?_;refine j_alloc (λ x4=>?_);refine l_nil ?_;refine J26 ?_;refine j_move ?_;(refine j_own (cM (hc:=λ w hs=>mNode_c (L:=x.L) (cs:=x.cs) hs r hr (by omega))) (λ x10=>?_);try (refine l_fact (λ h10=>?_)));refine J5 ?_)
 all_goals
 refine k_rt Tryz.results105 (λ w hw=>?_)
 exact⟨(),rfl,trivial,hw.finH⟩
theorem alloc_st{n:Nd}(i:Int)(h:x.st=true)(hs:SF w D (xH k bx bm x dn rs) A [] (xW x) w):Calls Tryz.prog 109 #[.pointer (some ⟨bx,0,none⟩),n.v,.int .i64 i] w λ e w'=>∃q:Unit,e=.returned (.int .i64 0)/\True/\SF w D (xH k bx bm x dn rs) [] [] (xW x) w':=by
 refine enter Tryz.func109 Tryz.ntmps109 rfl rfl (xOpen2 hs) ?_
 simp only[mkS]
 simp only[Nd.v]
 all_goals (refine J0 ?_;refine j_box (λ x4=>?_);refine J27 ?_;refine J26 ?_;refine l_nil ?_)
 all_goals
 refine kif (λ c10=>?_) (λ c10=>?_)
 ·try exact nv c10
  all_goals refine J10 ?_
  all_goals
   refine k_rv Tryz.results109 (λ w hw=>?_)
   exact⟨(),rfl,trivial,hw.finH⟩
 ·try exact nv c10
  all_goals
   exact absurd (h.symm.trans c10) (by decide)
  all_goals (refine J16 ?_;refine k_seq ?_;refine k_dq [0,1,2,3,4,5,6,7,8,9] ?_;refine J42 ?_;refine r_len ?_;refine r_eql ?_;refine r_fin ?_)
  all_goals
   refine kif (λ c20=>?_) (λ c20=>?_)
   ·try exact nv c20
    all_goals (refine k_dp [(0,[]),(1,[]),(2,[]),(3,[]),(4,[]),(5,[]),(6,[]),(7,[]),(8,[]),(9,[]),(10,[]),(11,[4]),(12,[4]),(13,[]),(14,[]),(15,[]),(16,[])] ?_;refine r_move ?_;refine J42 ?_;refine r_load ?_;refine r_move ?_;((refine r_own (i:=11) (hq:=(NO)) (h:=λ x32=>?_);try (refine r_fact (λ h32=>?_))));refine r_buildSlice (h:=λ x33=>?_);((refine r_append (h:=λ x34=>?_);try (refine r_fact (λ h34=>?_))));refine J88 ?_;refine J26 ?_;refine j_inc ?_;refine J61 ?_;refine k_seq ?_;refine k_dq [0,1,2,3,4,5,6,7,8,9,10,11] ?_;refine J42 ?_;refine r_dec ?_;refine J48 ?_;refine J7 ?_)
    all_goals
    refine k_rv Tryz.results109 (λ w hw=>?_)
    exact⟨(),rfl,trivial,hw.finH⟩
   ·try exact nv c20
    all_goals (refine J83 ?_;refine j_inc ?_;refine J61 ?_;refine k_seq ?_;refine k_dq [0,1,2,3,4,5,6,7,8,9,10,11] ?_;refine J42 ?_;refine r_dec ?_;refine J48 ?_;refine J7 ?_)
    all_goals
    refine k_rv Tryz.results109 (λ w hw=>?_)
    exact⟨(),rfl,trivial,hw.finH⟩
theorem alloc_old{n:Nd}(i:Int)(ok:x.Ok)(h:x.st=false)(h1:x.m<x.made.length)(hl:x.made.length<=274877906944)(hs:SF w D (xH k bx bm x dn rs) A [] (xW x) w):Calls Tryz.prog 109 #[.pointer (some ⟨bx,0,none⟩),n.v,.int .i64 i] w λ e w'=>∃q:Unit,e=.returned (.int .i64 (x.made.getD x.m 0))/\True/\SF w D (xH k bx bm {x with m:=x.m+1} dn rs) [] [] (xW {x with m:=x.m+1}) w':=by
 refine enter Tryz.func109 Tryz.ntmps109 rfl rfl (xOpen2 hs) ?_
 simp only[mkS]
 simp only[Nd.v]
 all_goals (refine J0 ?_;refine j_box (λ x4=>?_);refine J27 ?_;refine J26 ?_;refine l_nil ?_)
 all_goals
 refine kif (λ c10=>?_) (λ c10=>?_)
 ·try exact nv c10
  all_goals try (exfalso;omega)
  all_goals
   exact absurd (h.symm.trans c10) (by decide)
  all_goals refine J10 ?_
  all_goals
   refine k_rv Tryz.results109 (λ w hw=>?_)
   exact⟨(),by rw[Nat.add_sub_cancel];rfl,trivial,hw.finH⟩
 ·try exact nv c10
  all_goals try (exfalso;omega)
  all_goals (refine J16 ?_;refine k_seq ?_;refine k_dq [0,1,2,3,4,5,6,7,8,9] ?_;refine J42 ?_;refine r_len ?_;refine r_eql ?_;refine r_fin ?_)
  all_goals
   refine kif (λ c20=>?_) (λ c20=>?_)
   ·try exact nv c20
    all_goals try (exfalso;omega)
    all_goals (refine k_dp [(0,[]),(1,[]),(2,[]),(3,[]),(4,[]),(5,[]),(6,[]),(7,[]),(8,[]),(9,[]),(10,[]),(11,[4]),(12,[4]),(13,[]),(14,[]),(15,[]),(16,[])] ?_;refine r_move ?_;refine J42 ?_;refine r_load ?_;refine r_move ?_;((refine r_own (i:=11) (hq:=(NO)) (h:=λ x32=>?_);try (refine r_fact (λ h32=>?_))));refine r_buildSlice (h:=λ x33=>?_);((refine r_append (h:=λ x34=>?_);try (refine r_fact (λ h34=>?_))));refine J4 ?_;refine r_own0 (i:=16) (hq:=(by first|exact lSF λ _=>o_store rf atT wn rf on1 rf rf se2|exact(lSF λ _=>o_store rf atT wn rf on1 rf se1 se2)|exact(lSF λ _=>o_storeAgg rf atT rf rf ag1 rf se2)|exact(Loud.convO (o_storeR rf rf on1 oaT om) co1)|exact(Loud.convO (o_storeB rf rf on1 oaT om) co1)|exact(Loud.convO (o_storePv rf rf on1 oaT om) co1)|exact(Loud.convO (o_storeP rf rf ag1 oaT om) co1))) (h:=λ _=>?_);refine r_fin ?_;refine J26 ?_;refine l_quiet (o_addN (m:=x.m) (n:=1) rf rf (by omega)) rfl ?_;refine J49 ?_;refine j_own0 (by first|exact lSF λ _=>o_store rf atT wn rf on1 rf rf se2|exact(lSF λ _=>o_store rf atT wn rf on1 rf se1 se2)|exact(lSF λ _=>o_storeAgg rf atT rf rf ag1 rf se2)|exact(Loud.convO (o_storeR rf rf on1 oaT om) co1)|exact(Loud.convO (o_storeB rf rf on1 oaT om) co1)|exact(Loud.convO (o_storePv rf rf on1 oaT om) co1)|exact(Loud.convO (o_storeP rf rf ag1 oaT om) co1)) (λ _=>?_);refine J80 ?_;refine k_dq [0,1,2,3,4,5,6,7,8,9,10,11] ?_;refine J42 ?_;refine r_ownP (i:=8) (hq:=(o_subN (m:=x.m+1) (n:=1) rf rf (by omega) (by omega))) (h:=?_);refine r_ownQ (i:=9) (hq:=(o_indexR (m:=x.made.length) (k:=x.m+1-1) (lst:=x.made) rf rf sl1 on1 (.own (.tail .head)) (by omega) (by omega))) (h:=?_);refine r_ownQ (i:=10) (hq:=(o_loadR (q:=x.m+1-1) (lst:=x.made) rf on1 (.own (.tail .head)) (by omega))) (h:=?_);refine J7 ?_)
    all_goals
    refine k_rv Tryz.results109 (λ w hw=>?_)
    exact⟨(),by rw[Nat.add_sub_cancel];rfl,trivial,hw.finH⟩
   ·try exact nv c20
    all_goals try (exfalso;omega)
    all_goals (refine J83 ?_;refine l_quiet (o_addN (m:=x.m) (n:=1) rf rf (by omega)) rfl ?_;refine J49 ?_;refine j_own0 (by first|exact lSF λ _=>o_store rf atT wn rf on1 rf rf se2|exact(lSF λ _=>o_store rf atT wn rf on1 rf se1 se2)|exact(lSF λ _=>o_storeAgg rf atT rf rf ag1 rf se2)|exact(Loud.convO (o_storeR rf rf on1 oaT om) co1)|exact(Loud.convO (o_storeB rf rf on1 oaT om) co1)|exact(Loud.convO (o_storePv rf rf on1 oaT om) co1)|exact(Loud.convO (o_storeP rf rf ag1 oaT om) co1)) (λ _=>?_);refine J80 ?_;refine k_dq [0,1,2,3,4,5,6,7,8,9,10,11] ?_;refine J42 ?_;refine r_ownP (i:=8) (hq:=(o_subN (m:=x.m+1) (n:=1) rf rf (by omega) (by omega))) (h:=?_);refine r_ownQ (i:=9) (hq:=(o_indexR (m:=x.made.length) (k:=x.m+1-1) (lst:=x.made) rf rf sl1 on1 (.own (.tail .head)) (by omega) (by omega))) (h:=?_);refine r_ownQ (i:=10) (hq:=(o_loadR (q:=x.m+1-1) (lst:=x.made) rf on1 (.own (.tail .head)) (by omega))) (h:=?_);refine J7 ?_)
    all_goals
    refine k_rv Tryz.results109 (λ w hw=>?_)
    exact⟨(),by rw[Nat.add_sub_cancel];rfl,trivial,hw.finH⟩
theorem alloc_now{n:Nd}{xs:List Int}{ys:List Pr}(i:Int)(ok:x.Ok)(h:x.st=false)(h1:x.m=x.made.length)(hl:x.made.length<=137438953472)(hLl:x.L.length<=274877906900)(hcl:x.cs.length<=274877906900)(e1:n.brN=xs.length)(e2:n.prN=ys.length)(hx:xs.length<=274877906944)(hy:ys.length<=274877906944)(hs:SF w D (xH k bx bm x dn rs) [(n.brA,refsC xs),(n.prA,prC ys)] [] (xW x) w):Calls Tryz.prog 109 #[.pointer (some ⟨bx,0,none⟩),n.v,.int .i64 i] w λ e w'=>∃q:AX×(Option Addr×Nat),e=.returned (.int .i64 ((x.L.length+1:Nat):Int))/\True /\
   SF w D (xH k bx bm {x with L:=x.L++[alV n xs ys x.cs.length q.1],cs:=alCs n.kind x.cs i,pn:=q.1.pn,cn:=q.1.cn,pc:=q.1.pc,cc:=q.1.cc,made:=x.made++[((x.L.length+1:Nat):Int)],pm:=q.2.1,km:=q.2.2,m:=x.m+1} dn rs) [] (alV n xs ys x.cs.length q.1).fr (xW {x with L:=x.L++[alV n xs ys x.cs.length q.1],cs:=alCs n.kind x.cs i,pn:=q.1.pn,cn:=q.1.cn,pc:=q.1.pc,cc:=q.1.cc,made:=x.made++[((x.L.length+1:Nat):Int)],pm:=q.2.1,km:=q.2.2,m:=x.m+1}) w':=by
 refine enter Tryz.func109 Tryz.ntmps109 rfl rfl (xOpen2 hs) ?_
 simp only[mkS]
 simp only[Nd.v]
 all_goals (refine J0 ?_;refine j_box (λ x4=>?_);refine J27 ?_;refine J26 ?_;refine l_nil ?_)
 all_goals
 refine kif (λ c10=>?_) (λ c10=>?_)
 ·try exact nv c10
  all_goals try (exfalso;omega)
  all_goals
   exact absurd (h.symm.trans c10) (by decide)
  all_goals refine J10 ?_
  all_goals
   refine k_rv Tryz.results109 (λ w hw=>?_)
   rw[show x.made.length+1=(x.made++[((x.L.length+1:Nat):Int)]).length by simp] at hw
   exact⟨(x32,x34),by rw[show x.m+1-1=x.made.length by omega,snoc_last];rfl,trivial,hw.ret (List.Sublist.cons _ (List.Sublist.refl _)) (FSub.ofSub λ f hf=>List.mem_cons_of_mem _ (List.mem_append_left _ hf)) (List.Sublist.refl _)⟩
 ·try exact nv c10
  all_goals try (exfalso;omega)
  all_goals (refine J16 ?_;refine k_seq ?_;refine k_dq [0,1,2,3,4,5,6,7,8,9] ?_;refine J42 ?_;refine r_len ?_;refine r_eql ?_;refine r_fin ?_)
  all_goals
   refine kif (λ c20=>?_) (λ c20=>?_)
   ·try exact nv c20
    all_goals try (exfalso;omega)
    all_goals (refine k_dp [(0,[]),(1,[]),(2,[]),(3,[]),(4,[]),(5,[]),(6,[]),(7,[]),(8,[]),(9,[]),(10,[]),(11,[4]),(12,[4]),(13,[]),(14,[]),(15,[]),(16,[])] ?_;refine r_move ?_;refine J42 ?_;refine r_load ?_;refine r_move ?_;((refine r_own (i:=11) (hq:=(cM (A0:=[(n.brA,refsC xs),(n.prA,prC ys)]) (hc:=λ w hs=>mAlloc_c (n:=n) (L:=x.L) (cs:=x.cs) i hs e1 e2 hx hy (by omega) (by omega)))) (h:=λ x32=>?_);try (refine r_fact (λ h32=>?_))));refine r_buildSlice (h:=λ x33=>?_);((refine r_own (i:=13) (hq:=(Loud.convOF (o_appR1 (l:=x.made) (m:=x.made.length) rf rf (.tail .head) rfl fin er1 sl1 (by omega)) co1)) (h:=λ x34=>?_);try (refine r_fact (λ h34=>?_))));refine J4 ?_;refine r_own0 (i:=16) (hq:=(by first|exact lSF λ _=>o_store rf atT wn rf on1 rf rf se2|exact(lSF λ _=>o_store rf atT wn rf on1 rf se1 se2)|exact(lSF λ _=>o_storeAgg rf atT rf rf ag1 rf se2)|exact(Loud.convO (o_storeR rf rf on1 oaT om) co1)|exact(Loud.convO (o_storeB rf rf on1 oaT om) co1)|exact(Loud.convO (o_storePv rf rf on1 oaT om) co1)|exact(Loud.convO (o_storeP rf rf ag1 oaT om) co1))) (h:=λ _=>?_);refine r_fin ?_;refine J26 ?_;refine l_quiet (o_addN (m:=x.m) (n:=1) rf rf (by omega)) rfl ?_;refine J49 ?_;refine j_own0 (by first|exact lSF λ _=>o_store rf atT wn rf on1 rf rf se2|exact(lSF λ _=>o_store rf atT wn rf on1 rf se1 se2)|exact(lSF λ _=>o_storeAgg rf atT rf rf ag1 rf se2)|exact(Loud.convO (o_storeR rf rf on1 oaT om) co1)|exact(Loud.convO (o_storeB rf rf on1 oaT om) co1)|exact(Loud.convO (o_storePv rf rf on1 oaT om) co1)|exact(Loud.convO (o_storeP rf rf ag1 oaT om) co1)) (λ _=>?_);refine J80 ?_;refine k_dq [0,1,2,3,4,5,6,7,8,9,10,11] ?_;refine J42 ?_;refine r_ownP (i:=8) (hq:=(o_subN (m:=x.m+1) (n:=1) rf rf (by omega) (by omega))) (h:=?_);refine r_ownQ (i:=9) (hq:=(o_indexR (m:=x.made.length+1) (k:=x.m+1-1) rf rf sl1 on1 (.own (.tail .head)) (by omega) (by rw[List.length_append,List.length_cons,List.length_nil];omega))) (h:=?_);refine r_ownQ (i:=10) (hq:=(o_loadR (q:=x.m+1-1) rf on1 (.own (.tail .head)) (by rw[List.length_append,List.length_cons,List.length_nil];omega))) (h:=?_);refine J7 ?_)
    all_goals
    refine k_rv Tryz.results109 (λ w hw=>?_)
    rw[show x.made.length+1=(x.made++[((x.L.length+1:Nat):Int)]).length by simp] at hw
    exact⟨(x32,x34),by rw[show x.m+1-1=x.made.length by omega,snoc_last];rfl,trivial,hw.ret (List.Sublist.cons _ (List.Sublist.refl _)) (FSub.ofSub λ f hf=>List.mem_cons_of_mem _ (List.mem_append_left _ hf)) (List.Sublist.refl _)⟩
   ·try exact nv c20
    all_goals try (exfalso;omega)
    all_goals (refine J83 ?_;refine l_quiet (o_addN (m:=x.m) (n:=1) rf rf (by omega)) rfl ?_;refine J49 ?_;refine j_own0 (by first|exact lSF λ _=>o_store rf atT wn rf on1 rf rf se2|exact(lSF λ _=>o_store rf atT wn rf on1 rf se1 se2)|exact(lSF λ _=>o_storeAgg rf atT rf rf ag1 rf se2)|exact(Loud.convO (o_storeR rf rf on1 oaT om) co1)|exact(Loud.convO (o_storeB rf rf on1 oaT om) co1)|exact(Loud.convO (o_storePv rf rf on1 oaT om) co1)|exact(Loud.convO (o_storeP rf rf ag1 oaT om) co1)) (λ _=>?_);refine J80 ?_;refine k_dq [0,1,2,3,4,5,6,7,8,9,10,11] ?_;refine J42 ?_;refine r_ownP (i:=8) (hq:=(o_subN (m:=x.m+1) (n:=1) rf rf (by omega) (by omega))) (h:=?_);refine r_ownQ (i:=9) (hq:=(o_indexR (m:=x.made.length+1) (k:=x.m+1-1) rf rf sl1 on1 (.own (.tail .head)) (by omega) (by rw[List.length_append,List.length_cons,List.length_nil];omega))) (h:=?_);refine r_ownQ (i:=10) (hq:=(o_loadR (q:=x.m+1-1) rf on1 (.own (.tail .head)) (by rw[List.length_append,List.length_cons,List.length_nil];omega))) (h:=?_);refine J7 ?_)
    all_goals
    refine k_rv Tryz.results109 (λ w hw=>?_)
    rw[show x.made.length+1=(x.made++[((x.L.length+1:Nat):Int)]).length by simp] at hw
    exact⟨(x32,x34),by rw[show x.m+1-1=x.made.length by omega,snoc_last];rfl,trivial,hw.ret (List.Sublist.cons _ (List.Sublist.refl _)) (FSub.ofSub λ f hf=>List.mem_cons_of_mem _ (List.mem_append_left _ hf)) (List.Sublist.refl _)⟩
end
end Go.Proofs.YtpobgmdalcpomaaGreat

/- Executions of the reference: cells, generations. -/
namespace Go.Proofs.YtpobgmdalcpomaaGreat
open Go Go.RowKit Go.Ct
theorem zeroE_cellL:zeroIs Tryz.prog 31=some (.int .i64 0):=by kernel_rfl
theorem elem_cellL:ElemIs Tryz.prog 109 31 [.int .i64 0]:=elem_mk (by kernel_rfl) zeroE_cellL rfl
section
variable{k:Cl}{bx bm:Nat}{x:XS}{dn:Bool}{rs:Rs}{D:List Nat}{A:Fr}{w:World}
theorem cell_st(i:Int)(h:x.st=true)(hs:SF w D (xH k bx bm x dn rs) A [] (xW x) w):Calls Tryz.prog 121 #[.pointer (some ⟨bx,0,none⟩),.int .i64 i] w λ e w'=>∃q:Unit,e=.returned (.int .i64 0)/\True/\SF w D (xH k bx bm x dn rs) [] [] (xW x) w':=by
 refine enter Tryz.func121 Tryz.ntmps121 rfl rfl (xOpen2 hs) ?_
 simp only[mkS]
 all_goals (refine J75 ?_;refine J26 ?_;refine l_nil ?_)
 all_goals
 refine kif (λ c8=>?_) (λ c8=>?_)
 ·try exact nv c8
  all_goals refine J10 ?_
  all_goals
   refine k_rv Tryz.results121 (λ w hw=>?_)
   exact⟨(),rfl,trivial,hw.finH⟩
 ·try exact nv c8
  all_goals
   exact absurd (h.symm.trans c8) (by decide)
  all_goals (refine J16 ?_;refine k_seq ?_;refine k_dq [0,1,2,3,4,5,6,7,8,9] ?_;refine J42 ?_;refine r_len ?_;refine r_eql ?_;refine r_fin ?_)
  all_goals
   refine kif (λ c18=>?_) (λ c18=>?_)
   ·try exact nv c18
    all_goals (refine k_dp [(0,[]),(1,[]),(2,[]),(3,[]),(4,[]),(5,[]),(6,[]),(7,[]),(8,[]),(9,[]),(10,[4]),(11,[4]),(12,[]),(13,[]),(14,[]),(15,[])] ?_;refine r_move ?_;refine J42 ?_;refine r_move ?_;((refine r_own (i:=10) (hq:=(NO)) (h:=λ x29=>?_);try (refine r_fact (λ h29=>?_))));refine r_buildSlice (h:=λ x30=>?_);((refine r_append (h:=λ x31=>?_);try (refine r_fact (λ h31=>?_))));refine J88 ?_;refine J26 ?_;refine j_inc ?_;refine J61 ?_;refine k_seq ?_;refine k_dq [0,1,2,3,4,5,6,7,8,9,10,11] ?_;refine J42 ?_;refine r_dec ?_;refine J48 ?_;refine J7 ?_)
    all_goals
    refine k_rv Tryz.results121 (λ w hw=>?_)
    exact⟨(),rfl,trivial,hw.finH⟩
   ·try exact nv c18
    all_goals (refine J83 ?_;refine j_inc ?_;refine J61 ?_;refine k_seq ?_;refine k_dq [0,1,2,3,4,5,6,7,8,9,10,11] ?_;refine J42 ?_;refine r_dec ?_;refine J48 ?_;refine J7 ?_)
    all_goals
    refine k_rv Tryz.results121 (λ w hw=>?_)
    exact⟨(),rfl,trivial,hw.finH⟩
theorem cell_old(i:Int)(h:x.st=false)(h1:x.c<x.cel.length)(hl:x.cel.length<=274877906944)(hs:SF w D (xH k bx bm x dn rs) A [] (xW x) w):Calls Tryz.prog 121 #[.pointer (some ⟨bx,0,none⟩),.int .i64 i] w λ e w'=>∃q:Unit,e=.returned (.int .i64 (x.cel.getD x.c 0))/\True/\SF w D (xH k bx bm {x with c:=x.c+1} dn rs) [] [] (xW {x with c:=x.c+1}) w':=by
 refine enter Tryz.func121 Tryz.ntmps121 rfl rfl (xOpen2 hs) ?_
 simp only[mkS]
 all_goals (refine J75 ?_;refine J26 ?_;refine l_nil ?_)
 all_goals
 refine kif (λ c8=>?_) (λ c8=>?_)
 ·try exact nv c8
  all_goals try (exfalso;omega)
  all_goals
   exact absurd (h.symm.trans c8) (by decide)
  all_goals refine J10 ?_
  all_goals
   refine k_rv Tryz.results121 (λ w hw=>?_)
   exact⟨(),by rw[Nat.add_sub_cancel];rfl,trivial,hw.finH⟩
 ·try exact nv c8
  all_goals try (exfalso;omega)
  all_goals (refine J16 ?_;refine k_seq ?_;refine k_dq [0,1,2,3,4,5,6,7,8,9] ?_;refine J42 ?_;refine r_len ?_;refine r_eql ?_;refine r_fin ?_)
  all_goals
   refine kif (λ c18=>?_) (λ c18=>?_)
   ·try exact nv c18
    all_goals try (exfalso;omega)
    all_goals (refine k_dp [(0,[]),(1,[]),(2,[]),(3,[]),(4,[]),(5,[]),(6,[]),(7,[]),(8,[]),(9,[]),(10,[4]),(11,[4]),(12,[]),(13,[]),(14,[]),(15,[])] ?_;refine r_move ?_;refine J42 ?_;refine r_move ?_;((refine r_own (i:=10) (hq:=(NO)) (h:=λ x29=>?_);try (refine r_fact (λ h29=>?_))));refine r_buildSlice (h:=λ x30=>?_);((refine r_append (h:=λ x31=>?_);try (refine r_fact (λ h31=>?_))));refine J4 ?_;refine r_own0 (i:=15) (hq:=(by first|exact lSF λ _=>o_store rf atT wn rf on1 rf rf se2|exact(lSF λ _=>o_store rf atT wn rf on1 rf se1 se2)|exact(lSF λ _=>o_storeAgg rf atT rf rf ag1 rf se2)|exact(Loud.convO (o_storeR rf rf on1 oaT om) co1)|exact(Loud.convO (o_storeB rf rf on1 oaT om) co1)|exact(Loud.convO (o_storePv rf rf on1 oaT om) co1)|exact(Loud.convO (o_storeP rf rf ag1 oaT om) co1))) (h:=λ _=>?_);refine r_fin ?_;refine J26 ?_;refine l_quiet (o_addN (m:=x.c) (n:=1) rf rf (by omega)) rfl ?_;refine J49 ?_;refine j_own0 (by first|exact lSF λ _=>o_store rf atT wn rf on1 rf rf se2|exact(lSF λ _=>o_store rf atT wn rf on1 rf se1 se2)|exact(lSF λ _=>o_storeAgg rf atT rf rf ag1 rf se2)|exact(Loud.convO (o_storeR rf rf on1 oaT om) co1)|exact(Loud.convO (o_storeB rf rf on1 oaT om) co1)|exact(Loud.convO (o_storePv rf rf on1 oaT om) co1)|exact(Loud.convO (o_storeP rf rf ag1 oaT om) co1)) (λ _=>?_);refine J80 ?_;refine k_dq [0,1,2,3,4,5,6,7,8,9,10,11] ?_;refine J42 ?_;refine r_ownP (i:=8) (hq:=(o_subN (m:=x.c+1) (n:=1) rf rf (by omega) (by omega))) (h:=?_);refine r_ownQ (i:=9) (hq:=(o_indexR (m:=x.cel.length) (k:=x.c+1-1) (lst:=x.cel) rf rf sl1 on1 (.own (.tail (.tail .head))) (by omega) (by omega))) (h:=?_);refine r_ownQ (i:=10) (hq:=(o_loadR (q:=x.c+1-1) (lst:=x.cel) rf on1 (.own (.tail (.tail .head))) (by omega))) (h:=?_);refine J7 ?_)
    all_goals
    refine k_rv Tryz.results121 (λ w hw=>?_)
    exact⟨(),by rw[Nat.add_sub_cancel];rfl,trivial,hw.finH⟩
   ·try exact nv c18
    all_goals try (exfalso;omega)
    all_goals (refine J83 ?_;refine l_quiet (o_addN (m:=x.c) (n:=1) rf rf (by omega)) rfl ?_;refine J49 ?_;refine j_own0 (by first|exact lSF λ _=>o_store rf atT wn rf on1 rf rf se2|exact(lSF λ _=>o_store rf atT wn rf on1 rf se1 se2)|exact(lSF λ _=>o_storeAgg rf atT rf rf ag1 rf se2)|exact(Loud.convO (o_storeR rf rf on1 oaT om) co1)|exact(Loud.convO (o_storeB rf rf on1 oaT om) co1)|exact(Loud.convO (o_storePv rf rf on1 oaT om) co1)|exact(Loud.convO (o_storeP rf rf ag1 oaT om) co1)) (λ _=>?_);refine J80 ?_;refine k_dq [0,1,2,3,4,5,6,7,8,9,10,11] ?_;refine J42 ?_;refine r_ownP (i:=8) (hq:=(o_subN (m:=x.c+1) (n:=1) rf rf (by omega) (by omega))) (h:=?_);refine r_ownQ (i:=9) (hq:=(o_indexR (m:=x.cel.length) (k:=x.c+1-1) (lst:=x.cel) rf rf sl1 on1 (.own (.tail (.tail .head))) (by omega) (by omega))) (h:=?_);refine r_ownQ (i:=10) (hq:=(o_loadR (q:=x.c+1-1) (lst:=x.cel) rf on1 (.own (.tail (.tail .head))) (by omega))) (h:=?_);refine J7 ?_)
    all_goals
    refine k_rv Tryz.results121 (λ w hw=>?_)
    exact⟨(),by rw[Nat.add_sub_cancel];rfl,trivial,hw.finH⟩
theorem cell_now(i:Int)(h:x.st=false)(h1:x.c=x.cel.length)(hl:x.cel.length<=137438953472)(hcl:x.cs.length<=274877906900)(hs:SF w D (xH k bx bm x dn rs) A [] (xW x) w):Calls Tryz.prog 121 #[.pointer (some ⟨bx,0,none⟩),.int .i64 i] w λ e w'=>∃q:(Option Addr×Nat)×(Option Addr×Nat),e=.returned (.int .i64 ((x.cs.length+1:Nat):Int))/\True /\
   SF w D (xH k bx bm {x with cs:=x.cs++[i],pc:=q.1.1,cc:=q.1.2,cel:=x.cel++[((x.cs.length+1:Nat):Int)],pl:=q.2.1,kl:=q.2.2,c:=x.c+1} dn rs) [] [] (xW {x with cs:=x.cs++[i],pc:=q.1.1,cc:=q.1.2,cel:=x.cel++[((x.cs.length+1:Nat):Int)],pl:=q.2.1,kl:=q.2.2,c:=x.c+1}) w':=by
 refine enter Tryz.func121 Tryz.ntmps121 rfl rfl (xOpen2 hs) ?_
 simp only[mkS]
 all_goals (refine J75 ?_;refine J26 ?_;refine l_nil ?_)
 all_goals
 refine kif (λ c8=>?_) (λ c8=>?_)
 ·try exact nv c8
  all_goals try (exfalso;omega)
  all_goals
   exact absurd (h.symm.trans c8) (by decide)
  all_goals refine J10 ?_
  all_goals
   refine k_rv Tryz.results121 (λ w hw=>?_)
   rw[show x.cel.length+1=(x.cel++[((x.cs.length+1:Nat):Int)]).length by simp] at hw
   exact⟨(x29,x31),by rw[show x.c+1-1=x.cel.length by omega,snoc_last];rfl,trivial,hw.finH⟩
 ·try exact nv c8
  all_goals try (exfalso;omega)
  all_goals (refine J16 ?_;refine k_seq ?_;refine k_dq [0,1,2,3,4,5,6,7,8,9] ?_;refine J42 ?_;refine r_len ?_;refine r_eql ?_;refine r_fin ?_)
  all_goals
   refine kif (λ c18=>?_) (λ c18=>?_)
   ·try exact nv c18
    all_goals try (exfalso;omega)
    all_goals (refine k_dp [(0,[]),(1,[]),(2,[]),(3,[]),(4,[]),(5,[]),(6,[]),(7,[]),(8,[]),(9,[]),(10,[4]),(11,[4]),(12,[]),(13,[]),(14,[]),(15,[])] ?_;refine r_move ?_;refine J42 ?_;refine r_move ?_;((refine r_own (i:=10) (hq:=(cM (hc:=λ w hs=>mNewCell_c (L:=x.L) (cs:=x.cs) i hs (by omega)))) (h:=λ x29=>?_);try (refine r_fact (λ h29=>?_))));refine r_own (i:=11) (hq:=((by exact lSFF (λ _=>o_buildSlice (cs:=refsC [((x.cs.length+1:Nat):Int)]) elem_cellL pa1 rfl rfl rfl rfl rfl)))) (h:=λ x30=>?_);((refine r_own (i:=12) (hq:=(Loud.convOF (o_appR1 (l:=x.cel) (m:=x.cel.length) rf rf (.tail (.tail .head)) rfl fin (by exact elem_cellL) sl1 (by omega)) co1)) (h:=λ x31=>?_);try (refine r_fact (λ h31=>?_))));refine J4 ?_;refine r_own0 (i:=15) (hq:=(by first|exact lSF λ _=>o_store rf atT wn rf on1 rf rf se2|exact(lSF λ _=>o_store rf atT wn rf on1 rf se1 se2)|exact(lSF λ _=>o_storeAgg rf atT rf rf ag1 rf se2)|exact(Loud.convO (o_storeR rf rf on1 oaT om) co1)|exact(Loud.convO (o_storeB rf rf on1 oaT om) co1)|exact(Loud.convO (o_storePv rf rf on1 oaT om) co1)|exact(Loud.convO (o_storeP rf rf ag1 oaT om) co1))) (h:=λ _=>?_);refine r_fin ?_;refine J26 ?_;refine l_quiet (o_addN (m:=x.c) (n:=1) rf rf (by omega)) rfl ?_;refine J49 ?_;refine j_own0 (by first|exact lSF λ _=>o_store rf atT wn rf on1 rf rf se2|exact(lSF λ _=>o_store rf atT wn rf on1 rf se1 se2)|exact(lSF λ _=>o_storeAgg rf atT rf rf ag1 rf se2)|exact(Loud.convO (o_storeR rf rf on1 oaT om) co1)|exact(Loud.convO (o_storeB rf rf on1 oaT om) co1)|exact(Loud.convO (o_storePv rf rf on1 oaT om) co1)|exact(Loud.convO (o_storeP rf rf ag1 oaT om) co1)) (λ _=>?_);refine J80 ?_;refine k_dq [0,1,2,3,4,5,6,7,8,9,10,11] ?_;refine J42 ?_;refine r_ownP (i:=8) (hq:=(o_subN (m:=x.c+1) (n:=1) rf rf (by omega) (by omega))) (h:=?_);refine r_ownQ (i:=9) (hq:=(o_indexR (m:=x.cel.length+1) (k:=x.c+1-1) rf rf sl1 on1 (.own (.tail (.tail .head))) (by omega) (by rw[List.length_append,List.length_cons,List.length_nil];omega))) (h:=?_);refine r_ownQ (i:=10) (hq:=(o_loadR (q:=x.c+1-1) rf on1 (.own (.tail (.tail .head))) (by rw[List.length_append,List.length_cons,List.length_nil];omega))) (h:=?_);refine J7 ?_)
    all_goals
    refine k_rv Tryz.results121 (λ w hw=>?_)
    rw[show x.cel.length+1=(x.cel++[((x.cs.length+1:Nat):Int)]).length by simp] at hw
    exact⟨(x29,x31),by rw[show x.c+1-1=x.cel.length by omega,snoc_last];rfl,trivial,hw.finH⟩
   ·try exact nv c18
    all_goals try (exfalso;omega)
    all_goals (refine J83 ?_;refine l_quiet (o_addN (m:=x.c) (n:=1) rf rf (by omega)) rfl ?_;refine J49 ?_;refine j_own0 (by first|exact lSF λ _=>o_store rf atT wn rf on1 rf rf se2|exact(lSF λ _=>o_store rf atT wn rf on1 rf se1 se2)|exact(lSF λ _=>o_storeAgg rf atT rf rf ag1 rf se2)|exact(Loud.convO (o_storeR rf rf on1 oaT om) co1)|exact(Loud.convO (o_storeB rf rf on1 oaT om) co1)|exact(Loud.convO (o_storePv rf rf on1 oaT om) co1)|exact(Loud.convO (o_storeP rf rf ag1 oaT om) co1)) (λ _=>?_);refine J80 ?_;refine k_dq [0,1,2,3,4,5,6,7,8,9,10,11] ?_;refine J42 ?_;refine r_ownP (i:=8) (hq:=(o_subN (m:=x.c+1) (n:=1) rf rf (by omega) (by omega))) (h:=?_);refine r_ownQ (i:=9) (hq:=(o_indexR (m:=x.cel.length+1) (k:=x.c+1-1) rf rf sl1 on1 (.own (.tail (.tail .head))) (by omega) (by rw[List.length_append,List.length_cons,List.length_nil];omega))) (h:=?_);refine r_ownQ (i:=10) (hq:=(o_loadR (q:=x.c+1-1) rf on1 (.own (.tail (.tail .head))) (by rw[List.length_append,List.length_cons,List.length_nil];omega))) (h:=?_);refine J7 ?_)
    all_goals
    refine k_rv Tryz.results121 (λ w hw=>?_)
    rw[show x.cel.length+1=(x.cel++[((x.cs.length+1:Nat):Int)]).length by simp] at hw
    exact⟨(x29,x31),by rw[show x.c+1-1=x.cel.length by omega,snoc_last];rfl,trivial,hw.finH⟩
theorem gen_st(h:x.st=true)(hs:SF w D (xH k bx bm x dn rs) A [] (xW x) w):Calls Tryz.prog 123 #[.pointer (some ⟨bx,0,none⟩)] w λ e w'=>∃q:Unit,e=.returned (.int .i64 0)/\True/\SF w D (xH k bx bm x dn rs) [] [] (xW x) w':=by
 refine enter Tryz.func123 Tryz.ntmps123 rfl rfl (xOpen2 hs) ?_
 simp only[mkS]
 all_goals (refine J75 ?_;refine J26 ?_;refine l_nil ?_)
 all_goals
 refine kif (λ c6=>?_) (λ c6=>?_)
 ·try exact nv c6
  all_goals refine J10 ?_
  all_goals
   refine k_rv Tryz.results123 (λ w hw=>?_)
   exact⟨(),rfl,trivial,hw.finH⟩
 ·try exact nv c6
  all_goals
   exact absurd (h.symm.trans c6) (by decide)
  all_goals (refine J16 ?_;refine k_seq ?_;refine k_dq [0,1,2,3,4,5,6,7,8,9] ?_;refine J42 ?_;refine r_len ?_;refine r_eql ?_;refine r_fin ?_)
  all_goals
   refine kif (λ c16=>?_) (λ c16=>?_)
   ·try exact nv c16
    all_goals (refine k_dp [(0,[]),(1,[]),(2,[]),(3,[]),(4,[]),(5,[]),(6,[]),(7,[]),(8,[]),(9,[4]),(10,[4]),(11,[]),(12,[]),(13,[]),(14,[])] ?_;refine r_move ?_;refine J42 ?_;((refine r_own (i:=9) (hq:=(NO)) (h:=λ x26=>?_);try (refine r_fact (λ h26=>?_))));refine r_buildSlice (h:=λ x27=>?_);((refine r_append (h:=λ x28=>?_);try (refine r_fact (λ h28=>?_))));refine J88 ?_;refine J26 ?_;refine j_inc ?_;refine J61 ?_;refine k_seq ?_;refine k_dq [0,1,2,3,4,5,6,7,8,9,10,11] ?_;refine J42 ?_;refine r_dec ?_;refine J48 ?_;refine J7 ?_)
    all_goals
    refine k_rv Tryz.results123 (λ w hw=>?_)
    exact⟨(),rfl,trivial,hw.finH⟩
   ·try exact nv c16
    all_goals (refine J83 ?_;refine j_inc ?_;refine J61 ?_;refine k_seq ?_;refine k_dq [0,1,2,3,4,5,6,7,8,9,10,11] ?_;refine J42 ?_;refine r_dec ?_;refine J48 ?_;refine J7 ?_)
    all_goals
    refine k_rv Tryz.results123 (λ w hw=>?_)
    exact⟨(),rfl,trivial,hw.finH⟩
theorem gen_old(h:x.st=false)(h1:x.g<x.gns.length)(hl:x.gns.length<=274877906944)(hs:SF w D (xH k bx bm x dn rs) A [] (xW x) w):Calls Tryz.prog 123 #[.pointer (some ⟨bx,0,none⟩)] w λ e w'=>∃q:Unit,e=.returned (.int .i64 (x.gns.getD x.g 0))/\True/\SF w D (xH k bx bm {x with g:=x.g+1} dn rs) [] [] (xW {x with g:=x.g+1}) w':=by
 refine enter Tryz.func123 Tryz.ntmps123 rfl rfl (xOpen2 hs) ?_
 simp only[mkS]
 all_goals (refine J75 ?_;refine J26 ?_;refine l_nil ?_)
 all_goals
 refine kif (λ c6=>?_) (λ c6=>?_)
 ·try exact nv c6
  all_goals try (exfalso;omega)
  all_goals
   exact absurd (h.symm.trans c6) (by decide)
  all_goals refine J10 ?_
  all_goals
   refine k_rv Tryz.results123 (λ w hw=>?_)
   exact⟨(),by rw[Nat.add_sub_cancel];rfl,trivial,hw.finH⟩
 ·try exact nv c6
  all_goals try (exfalso;omega)
  all_goals (refine J16 ?_;refine k_seq ?_;refine k_dq [0,1,2,3,4,5,6,7,8,9] ?_;refine J42 ?_;refine r_len ?_;refine r_eql ?_;refine r_fin ?_)
  all_goals
   refine kif (λ c16=>?_) (λ c16=>?_)
   ·try exact nv c16
    all_goals try (exfalso;omega)
    all_goals (refine k_dp [(0,[]),(1,[]),(2,[]),(3,[]),(4,[]),(5,[]),(6,[]),(7,[]),(8,[]),(9,[4]),(10,[4]),(11,[]),(12,[]),(13,[]),(14,[])] ?_;refine r_move ?_;refine J42 ?_;((refine r_own (i:=9) (hq:=(NO)) (h:=λ x26=>?_);try (refine r_fact (λ h26=>?_))));refine r_buildSlice (h:=λ x27=>?_);((refine r_append (h:=λ x28=>?_);try (refine r_fact (λ h28=>?_))));refine J4 ?_;refine r_own0 (i:=14) (hq:=(by first|exact lSF λ _=>o_store rf atT wn rf on1 rf rf se2|exact(lSF λ _=>o_store rf atT wn rf on1 rf se1 se2)|exact(lSF λ _=>o_storeAgg rf atT rf rf ag1 rf se2)|exact(Loud.convO (o_storeR rf rf on1 oaT om) co1)|exact(Loud.convO (o_storeB rf rf on1 oaT om) co1)|exact(Loud.convO (o_storePv rf rf on1 oaT om) co1)|exact(Loud.convO (o_storeP rf rf ag1 oaT om) co1))) (h:=λ _=>?_);refine r_fin ?_;refine J26 ?_;refine l_quiet (o_addN (m:=x.g) (n:=1) rf rf (by omega)) rfl ?_;refine J49 ?_;refine j_own0 (by first|exact lSF λ _=>o_store rf atT wn rf on1 rf rf se2|exact(lSF λ _=>o_store rf atT wn rf on1 rf se1 se2)|exact(lSF λ _=>o_storeAgg rf atT rf rf ag1 rf se2)|exact(Loud.convO (o_storeR rf rf on1 oaT om) co1)|exact(Loud.convO (o_storeB rf rf on1 oaT om) co1)|exact(Loud.convO (o_storePv rf rf on1 oaT om) co1)|exact(Loud.convO (o_storeP rf rf ag1 oaT om) co1)) (λ _=>?_);refine J80 ?_;refine k_dq [0,1,2,3,4,5,6,7,8,9,10,11] ?_;refine J42 ?_;refine r_ownP (i:=8) (hq:=(o_subN (m:=x.g+1) (n:=1) rf rf (by omega) (by omega))) (h:=?_);refine r_ownQ (i:=9) (hq:=(o_indexR (m:=x.gns.length) (k:=x.g+1-1) (lst:=x.gns) rf rf sl1 on1 (.own (.tail (.tail (.tail .head)))) (by omega) (by omega))) (h:=?_);refine r_ownQ (i:=10) (hq:=(o_loadR (q:=x.g+1-1) (lst:=x.gns) rf on1 (.own (.tail (.tail (.tail .head)))) (by omega))) (h:=?_);refine J7 ?_)
    all_goals
    refine k_rv Tryz.results123 (λ w hw=>?_)
    exact⟨(),by rw[Nat.add_sub_cancel];rfl,trivial,hw.finH⟩
   ·try exact nv c16
    all_goals try (exfalso;omega)
    all_goals (refine J83 ?_;refine l_quiet (o_addN (m:=x.g) (n:=1) rf rf (by omega)) rfl ?_;refine J49 ?_;refine j_own0 (by first|exact lSF λ _=>o_store rf atT wn rf on1 rf rf se2|exact(lSF λ _=>o_store rf atT wn rf on1 rf se1 se2)|exact(lSF λ _=>o_storeAgg rf atT rf rf ag1 rf se2)|exact(Loud.convO (o_storeR rf rf on1 oaT om) co1)|exact(Loud.convO (o_storeB rf rf on1 oaT om) co1)|exact(Loud.convO (o_storePv rf rf on1 oaT om) co1)|exact(Loud.convO (o_storeP rf rf ag1 oaT om) co1)) (λ _=>?_);refine J80 ?_;refine k_dq [0,1,2,3,4,5,6,7,8,9,10,11] ?_;refine J42 ?_;refine r_ownP (i:=8) (hq:=(o_subN (m:=x.g+1) (n:=1) rf rf (by omega) (by omega))) (h:=?_);refine r_ownQ (i:=9) (hq:=(o_indexR (m:=x.gns.length) (k:=x.g+1-1) (lst:=x.gns) rf rf sl1 on1 (.own (.tail (.tail (.tail .head)))) (by omega) (by omega))) (h:=?_);refine r_ownQ (i:=10) (hq:=(o_loadR (q:=x.g+1-1) (lst:=x.gns) rf on1 (.own (.tail (.tail (.tail .head)))) (by omega))) (h:=?_);refine J7 ?_)
    all_goals
    refine k_rv Tryz.results123 (λ w hw=>?_)
    exact⟨(),by rw[Nat.add_sub_cancel];rfl,trivial,hw.finH⟩
theorem gen_now(h:x.st=false)(h1:x.g=x.gns.length)(hl:x.gns.length<=137438953472)(hgn : -1<=x.gen/\x.gen<=137438953600)(hs:SF w D (xH k bx bm x dn rs) A [] (xW x) w):Calls Tryz.prog 123 #[.pointer (some ⟨bx,0,none⟩)] w λ e w'=>∃q:Option Addr×Nat,e=.returned (.int .i64 (x.gen+1))/\True /\
   SF w D (xH k bx bm {x with gen:=x.gen+1,gns:=x.gns++[x.gen+1],pe:=q.1,ke:=q.2,g:=x.g+1} dn rs) [] [] (xW {x with gen:=x.gen+1,gns:=x.gns++[x.gen+1],pe:=q.1,ke:=q.2,g:=x.g+1}) w':=by
 have hup:up x.gen=x.gen+1:=wrap_i64 (by omega) (by omega)
 refine enter Tryz.func123 Tryz.ntmps123 rfl rfl (xOpen2 hs) ?_
 simp only[mkS]
 all_goals (refine J75 ?_;refine J26 ?_;refine l_nil ?_)
 all_goals
 refine kif (λ c6=>?_) (λ c6=>?_)
 ·try exact nv c6
  all_goals try (exfalso;omega)
  all_goals
   exact absurd (h.symm.trans c6) (by decide)
  all_goals refine J10 ?_
  all_goals
   refine k_rv Tryz.results123 (λ w hw=>?_)
   rw[hup,show x.gns.length+1=(x.gns++[x.gen+1]).length by simp] at hw
   exact⟨x28,by rw[show x.g+1-1=x.gns.length by omega,snoc_last,hup];rfl,trivial,hw.finH⟩
 ·try exact nv c6
  all_goals try (exfalso;omega)
  all_goals (refine J16 ?_;refine k_seq ?_;refine k_dq [0,1,2,3,4,5,6,7,8,9] ?_;refine J42 ?_;refine r_len ?_;refine r_eql ?_;refine r_fin ?_)
  all_goals
   refine kif (λ c16=>?_) (λ c16=>?_)
   ·try exact nv c16
    all_goals try (exfalso;omega)
    all_goals (refine k_dp [(0,[]),(1,[]),(2,[]),(3,[]),(4,[]),(5,[]),(6,[]),(7,[]),(8,[]),(9,[4]),(10,[4]),(11,[]),(12,[]),(13,[]),(14,[])] ?_;refine r_move ?_;refine J42 ?_;((refine r_own (i:=9) (hq:=(cM (hc:=λ w hs=>mNewGen_c (L:=x.L) (cs:=x.cs) (gen:=x.gen) hs))) (h:=λ x26=>?_);try (refine r_fact (λ h26=>?_))));refine r_buildSlice (h:=λ x27=>?_);((refine r_own (i:=11) (hq:=(Loud.convOF (o_appR1 (l:=x.gns) (m:=x.gns.length) rf rf (.tail (.tail (.tail .head))) rfl fin (by exact elem_int) sl1 (by omega)) co1)) (h:=λ x28=>?_);try (refine r_fact (λ h28=>?_))));refine J4 ?_;refine r_own0 (i:=14) (hq:=(by first|exact lSF λ _=>o_store rf atT wn rf on1 rf rf se2|exact(lSF λ _=>o_store rf atT wn rf on1 rf se1 se2)|exact(lSF λ _=>o_storeAgg rf atT rf rf ag1 rf se2)|exact(Loud.convO (o_storeR rf rf on1 oaT om) co1)|exact(Loud.convO (o_storeB rf rf on1 oaT om) co1)|exact(Loud.convO (o_storePv rf rf on1 oaT om) co1)|exact(Loud.convO (o_storeP rf rf ag1 oaT om) co1))) (h:=λ _=>?_);refine r_fin ?_;refine J26 ?_;refine l_quiet (o_addN (m:=x.g) (n:=1) rf rf (by omega)) rfl ?_;refine J49 ?_;refine j_own0 (by first|exact lSF λ _=>o_store rf atT wn rf on1 rf rf se2|exact(lSF λ _=>o_store rf atT wn rf on1 rf se1 se2)|exact(lSF λ _=>o_storeAgg rf atT rf rf ag1 rf se2)|exact(Loud.convO (o_storeR rf rf on1 oaT om) co1)|exact(Loud.convO (o_storeB rf rf on1 oaT om) co1)|exact(Loud.convO (o_storePv rf rf on1 oaT om) co1)|exact(Loud.convO (o_storeP rf rf ag1 oaT om) co1)) (λ _=>?_);refine J80 ?_;refine k_dq [0,1,2,3,4,5,6,7,8,9,10,11] ?_;refine J42 ?_;refine r_ownP (i:=8) (hq:=(o_subN (m:=x.g+1) (n:=1) rf rf (by omega) (by omega))) (h:=?_);refine r_ownQ (i:=9) (hq:=(o_indexR (m:=x.gns.length+1) (k:=x.g+1-1) rf rf sl1 on1 (.own (.tail (.tail (.tail .head)))) (by omega) (by rw[List.length_append,List.length_cons,List.length_nil];omega))) (h:=?_);refine r_ownQ (i:=10) (hq:=(o_loadR (q:=x.g+1-1) rf on1 (.own (.tail (.tail (.tail .head)))) (by rw[List.length_append,List.length_cons,List.length_nil];omega))) (h:=?_);refine J7 ?_)
    all_goals
    refine k_rv Tryz.results123 (λ w hw=>?_)
    rw[hup,show x.gns.length+1=(x.gns++[x.gen+1]).length by simp] at hw
    exact⟨x28,by rw[show x.g+1-1=x.gns.length by omega,snoc_last,hup];rfl,trivial,hw.finH⟩
   ·try exact nv c16
    all_goals try (exfalso;omega)
    all_goals (refine J83 ?_;refine l_quiet (o_addN (m:=x.g) (n:=1) rf rf (by omega)) rfl ?_;refine J49 ?_;refine j_own0 (by first|exact lSF λ _=>o_store rf atT wn rf on1 rf rf se2|exact(lSF λ _=>o_store rf atT wn rf on1 rf se1 se2)|exact(lSF λ _=>o_storeAgg rf atT rf rf ag1 rf se2)|exact(Loud.convO (o_storeR rf rf on1 oaT om) co1)|exact(Loud.convO (o_storeB rf rf on1 oaT om) co1)|exact(Loud.convO (o_storePv rf rf on1 oaT om) co1)|exact(Loud.convO (o_storeP rf rf ag1 oaT om) co1)) (λ _=>?_);refine J80 ?_;refine k_dq [0,1,2,3,4,5,6,7,8,9,10,11] ?_;refine J42 ?_;refine r_ownP (i:=8) (hq:=(o_subN (m:=x.g+1) (n:=1) rf rf (by omega) (by omega))) (h:=?_);refine r_ownQ (i:=9) (hq:=(o_indexR (m:=x.gns.length+1) (k:=x.g+1-1) rf rf sl1 on1 (.own (.tail (.tail (.tail .head)))) (by omega) (by rw[List.length_append,List.length_cons,List.length_nil];omega))) (h:=?_);refine r_ownQ (i:=10) (hq:=(o_loadR (q:=x.g+1-1) rf on1 (.own (.tail (.tail (.tail .head)))) (by rw[List.length_append,List.length_cons,List.length_nil];omega))) (h:=?_);refine J7 ?_)
    all_goals
    refine k_rv Tryz.results123 (λ w hw=>?_)
    rw[hup,show x.gns.length+1=(x.gns++[x.gen+1]).length by simp] at hw
    exact⟨x28,by rw[show x.g+1-1=x.gns.length by omega,snoc_last,hup];rfl,trivial,hw.finH⟩
end
end Go.Proofs.YtpobgmdalcpomaaGreat
