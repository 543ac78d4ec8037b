/- Merged. -/
import Derived.Test.YtdnklbipddigbaaGreatGKw6
set_option linter.unusedSimpArgs false
set_option linter.unusedVariables false
namespace Go.Ct
section
def b01(b:Bool):Int:=if b=true then 1 else 0
theorem snoc_last(l:List Int)(v:Int):(l++[v]).getD l.length 0=v:=by rw[gdg,List.getElem?_append_right (Nat.le_refl _)];simp
end
end Go.Ct
namespace Go.Proofs.YtdnklbipddigbaaGreat
open Go.Proofs.Tryz (prog)
open Go Go.RowKit Go.Ct
section
section
variable{k:Cl}{bx bm:Nat}{x:XS}{dn:Bool}{rs:Rs}{D:List Nat}{A:Fr}{w:World}
theorem cas_st(c o n:Int)(ok:x.Ok)(h:x.st=true)(hs:SF w D (xH k bx bm x dn rs) A [] (xW x) w):Calls prog 204 #[.pointer (some ⟨bx,0,none⟩),.int .i64 c,.int .i64 o,.int .i64 n] w λ e w'=>∃q:Unit,e=.returned (.bool false)/\True/\SF w D (xH k bx bm x dn rs) [] [] (xW x) w':=by
 refine enter Tryz.func204 Tryz.ntmps204 rfl rfl (xOpen2 hs) ?_;simp only[mkS];refine Kf6 ?_;refine J35 ?_;refine j_build ?_;refine j_ownF (cM (hs:=xH k bx bm x dn rs) (os:=xW x) (hc:=λ w hs=>known_st ⟨2,c,o,n⟩ ok h hs)) (λ x18 h18=>?_);refine Kb9 ?_;refine l_nil ?_;refine kif (λ c21=>?_) (λ c21=>?_);·exact nv c21
 ·try (exact abt)
  refine J16 ?_;refine k_dq [0,1,2,3,4,5,6,7,8,9,10,11,12,13,14,15,16,17,18] ?_;refine J17 ?_;(refine r_move ?_);refine Ke1 ?_;refine r_un ?_;refine J60 ?_;refine J30 ?_;(refine r_un ?_);refine J74 ?_;refine J56 ?_;refine J7 ?_;refine k_rv Tryz.results204 (λ w hw=>?_);exact⟨(),rfl,trivial,hw.finH⟩
theorem cas_no(c o n:Int)(ok:x.Ok)(h:x.st=false)(h1:¬x.a<x.got.length)(h2:x.fr=0)(hs:SF w D (xH k bx bm x dn rs) A [] (xW x) w):Calls prog 204 #[.pointer (some ⟨bx,0,none⟩),.int .i64 c,.int .i64 o,.int .i64 n] w λ e w'=>∃q:Unit,e=.returned (.bool false)/\True/\SF w D (xH k bx bm {x with st:=true,nx:=⟨2,c,o,n⟩} dn rs) [] [] (xW {x with st:=true,nx:=⟨2,c,o,n⟩}) w':=by
 refine enter Tryz.func204 Tryz.ntmps204 rfl rfl (xOpen2 hs) ?_;simp only[mkS];refine Kf6 ?_;refine J35 ?_;refine j_build ?_;refine j_ownF (cM (hs:=xH k bx bm x dn rs) (os:=xW x) (hc:=λ w hs=>known_no ⟨2,c,o,n⟩ ok h h1 h2 hs)) (λ x18 h18=>?_);refine Kb9 ?_;refine l_nil ?_;refine kif (λ c21=>?_) (λ c21=>?_);·exact nv c21
 ·try (exact abt)
  refine J16 ?_;refine k_dq [0,1,2,3,4,5,6,7,8,9,10,11,12,13,14,15,16,17,18] ?_;refine J17 ?_;(refine r_move ?_);refine Ke1 ?_;refine r_un ?_;refine J60 ?_;refine J30 ?_;(refine r_un ?_);refine J74 ?_;refine J56 ?_;refine J7 ?_;refine k_rv Tryz.results204 (λ w hw=>?_);exact⟨(),rfl,trivial,hw.finH⟩
theorem cas_old(c o n:Int)(ok:x.Ok)(h:x.st=false)(h1:x.a<x.got.length)(hs:SF w D (xH k bx bm x dn rs) A [] (xW x) w):Calls prog 204 #[.pointer (some ⟨bx,0,none⟩),.int .i64 c,.int .i64 o,.int .i64 n] w λ e w'=>∃q:Unit,e=.returned (.bool (x.got.getD x.a 0==1))/\True/\SF w D (xH k bx bm {x with a:=x.a+1} dn rs) [] [] (xW {x with a:=x.a+1}) w':=by
 have hg:=ok.lg;refine enter Tryz.func204 Tryz.ntmps204 rfl rfl (xOpen2 hs) ?_;simp only[mkS];refine Kf6 ?_;refine J35 ?_;refine j_build ?_;refine j_ownF (cM (hs:=xH k bx bm x dn rs) (os:=xW x) (hc:=λ w hs=>known_old ⟨2,c,o,n⟩ ok h h1 hs)) (λ x18 h18=>?_);refine Kb9 ?_;refine l_nil ?_;refine kif (λ c21=>?_) (λ c21=>?_);·exact nv c21
 ·try (exact abt)
  refine J16 ?_;refine k_dq [0,1,2,3,4,5,6,7,8,9,10,11,12,13,14,15,16,17,18] ?_;refine J17 ?_;refine r_un ?_;refine Ke1 ?_;(refine r_move ?_);refine J60 ?_;refine J30 ?_;((refine r_ownP (i:=13) (hq:=(o_subN (m:=x.a+1) (n:=1) rf rf (by omega) (by omega))) (h:=?_)));((refine r_ownQ (i:=14) (hq:=(o_indexR (m:=x.got.length) (k:=x.a+1-1) (lst:=x.got) rf rf sl1 on1 (.own .head) (by omega) (by omega))) (h:=?_)));((refine r_ownQ (i:=15) (hq:=(o_loadR (q:=x.a+1-1) (lst:=x.got) rf on1 (.own .head) (by omega))) (h:=?_)));refine J56 ?_;refine J7 ?_;refine k_rv Tryz.results204 (λ w hw=>?_);exact⟨(),by rw[Nat.add_sub_cancel];rfl,trivial,hw.finH⟩
theorem cas_now(c o n:Int)(hc:c<=9223372036854775807)(ok:x.Ok)(h:x.st=false)(h1:¬x.a<x.got.length)(h2:¬x.fr=0)(hs:SF w D (xH k bx bm x dn rs) A [] (xW x) w):Calls prog 204 #[.pointer (some ⟨bx,0,none⟩),.int .i64 c,.int .i64 o,.int .i64 n] w λ e w'=>∃q:Bool×(Option Addr×Nat),e=.returned (.bool q.1)/\(q.1=true↔CasOk x.cs c o)/\SF w D (xH k bx bm {x with fr:=x.fr-1,cs:=casL x.cs c o n,acc:=up x.acc,got:=x.got++[b01 q.1],pg:=q.2.1,kg:=q.2.2,a:=x.a+1} dn rs) [] [] (xW {x with fr:=x.fr-1,cs:=casL x.cs c o n,acc:=up x.acc,got:=x.got++[b01 q.1],pg:=q.2.1,kg:=q.2.2,a:=x.a+1}) w':=by
 have hg:=ok.lg;have ha:=ok.la;have hlc:=ok.lc;refine enter Tryz.func204 Tryz.ntmps204 rfl rfl (xOpen2 hs) ?_;simp only[mkS];refine Kf6 ?_;refine J35 ?_;refine j_build ?_;refine j_ownF (cM (hs:=xH k bx bm x dn rs) (os:=xW x) (hc:=λ w hs=>known_now ⟨2,c,o,n⟩ ok h h1 h2 hs)) (λ x18 h18=>?_);refine Kb9 ?_;refine l_nil ?_;refine kif (λ c21=>?_) (λ c21=>?_)
 ·try (exact abt)
  refine J75 ?_;refine J26 ?_;refine Kf8 ?_;refine j_ownF (cM (V:=.bool) (hc:=λ w hs=>mCAS_c (L:=x.L) (cs:=x.cs) hs c o n hc (by omega))) (λ x29 h29=>?_);refine l_nil ?_;refine kif (λ c29=>?_) (λ c29=>?_)
  ·try (exact abt)
   have hv:(1:Int)=b01 x29:=by rw[c29];rfl
   refine k_region ?_;refine J1 ?_;refine k_dp [(0,[]),(1,[]),(2,[]),(3,[]),(4,[]),(5,[]),(6,[]),(9,[]),(10,[]),(11,[]),(12,[]),(13,[]),(7,[5,12]),(8,[12]),(14,[]),(15,[]),(16,[]),(17,[]),(18,[]),(19,[])] ?_;refine J17 ?_;refine J14 ?_;refine J67 ?_;refine r_ownP (i:=13) (hq:=(o_addN (m:=x.a) (n:=1) rf rf (by omega))) (h:=?_);refine r_buildSlice (h:=λ x37=>?_);((refine r_own (i:=8) (hq:=(Loud.convOF (o_appR1 (l:=x.got) (m:=x.got.length) rf rf .head rfl fin er1 sl1 (by omega)) co1)) (h:=λ x38=>?_);try (refine r_fact (λ h38=>?_))));refine J4 ?_;refine r_own0 (i:=16) (hq:=(by exact lSF λ _=>o_store rf atT wn rf on1 rf rf se2)) (h:=λ _=>?_);refine J4 ?_;refine r_own0 (i:=19) (hq:=(by exact lSF λ _=>o_store rf atT wn rf on1 rf rf se2)) (h:=λ _=>?_);refine r_fin ?_;refine k_seq ?_;refine k_dq [0,1,2,3,4,5,6,7,8,9,10,11,12,13,14,15,16,17,18] ?_;refine J17 ?_;(refine r_move ?_);refine Ke1 ?_;(refine r_move ?_);refine J60 ?_;refine J30 ?_;((refine r_ownP (i:=13) (hq:=(o_subN (m:=x.a+1) (n:=1) rf rf (by omega) (by omega))) (h:=?_)));((refine r_ownQ (i:=14) (hq:=(o_indexR (m:=x.got.length+1) (k:=x.a+1-1) rf rf sl1 on1 (.own .head) (by omega) (by rw[List.length_append,List.length_cons,List.length_nil];omega))) (h:=?_)));((refine r_ownQ (i:=15) (hq:=(o_loadR (q:=x.a+1-1) rf on1 (.own .head) (by rw[List.length_append,List.length_cons,List.length_nil];omega))) (h:=?_)));refine J56 ?_;refine J7 ?_;refine k_rv Tryz.results204 (λ w hw=>?_);rw[hv] at hw;rw[show x.got.length+1=(x.got++[b01 x29]).length by simp] at hw;exact⟨(x29,x38),by rw[show x.a+1-1=x.got.length by omega,snoc_last,c29];rfl,h29,hw.finH⟩
  ·try (exact abt)
   have hv:(0:Int)=b01 x29:=by rw[c29];rfl
   refine k_skip ?_;refine k_dp [(0,[]),(1,[]),(2,[]),(3,[]),(4,[]),(5,[]),(6,[]),(9,[]),(10,[]),(11,[]),(12,[]),(13,[]),(7,[5,12]),(8,[12]),(14,[]),(15,[]),(16,[]),(17,[]),(18,[]),(19,[])] ?_;refine J17 ?_;refine J14 ?_;refine J67 ?_;refine r_ownP (i:=13) (hq:=(o_addN (m:=x.a) (n:=1) rf rf (by omega))) (h:=?_);refine r_buildSlice (h:=λ x37=>?_);((refine r_own (i:=8) (hq:=(Loud.convOF (o_appR1 (l:=x.got) (m:=x.got.length) rf rf .head rfl fin er1 sl1 (by omega)) co1)) (h:=λ x38=>?_);try (refine r_fact (λ h38=>?_))));refine J4 ?_;refine r_own0 (i:=16) (hq:=(by exact lSF λ _=>o_store rf atT wn rf on1 rf rf se2)) (h:=λ _=>?_);refine J4 ?_;refine r_own0 (i:=19) (hq:=(by exact lSF λ _=>o_store rf atT wn rf on1 rf rf se2)) (h:=λ _=>?_);refine r_fin ?_;refine k_seq ?_;refine k_dq [0,1,2,3,4,5,6,7,8,9,10,11,12,13,14,15,16,17,18] ?_;refine J17 ?_;(refine r_move ?_);refine Ke1 ?_;(refine r_move ?_);refine J60 ?_;refine J30 ?_;((refine r_ownP (i:=13) (hq:=(o_subN (m:=x.a+1) (n:=1) rf rf (by omega) (by omega))) (h:=?_)));((refine r_ownQ (i:=14) (hq:=(o_indexR (m:=x.got.length+1) (k:=x.a+1-1) rf rf sl1 on1 (.own .head) (by omega) (by rw[List.length_append,List.length_cons,List.length_nil];omega))) (h:=?_)));((refine r_ownQ (i:=15) (hq:=(o_loadR (q:=x.a+1-1) rf on1 (.own .head) (by rw[List.length_append,List.length_cons,List.length_nil];omega))) (h:=?_)));refine J56 ?_;refine J7 ?_;refine k_rv Tryz.results204 (λ w hw=>?_);rw[hv] at hw;rw[show x.got.length+1=(x.got++[b01 x29]).length by simp] at hw;exact⟨(x29,x38),by rw[show x.a+1-1=x.got.length by omega,snoc_last,c29];rfl,h29,hw.finH⟩
 ·exact nv c21
end
end
section
section
variable{k:Cl}{bx bm:Nat}{x:XS}{dn:Bool}{rs:Rs}{D:List Nat}{A:Fr}{w:World}
theorem xnode_c(r:Int)(hr:r<=9223372036854775807)(ok:x.Ok)(hs:SF w D (xH k bx bm x dn rs) A [] (xW x) w):Calls prog 203 #[.pointer (some ⟨bx,0,none⟩),.int .i64 r] w λ e w'=>∃q:Unit,e=.returned (nodeV x.L r).nd.v/\True/\SF w D (xH k bx bm x dn rs) [] [] (xW x) w':=by have hl:=ok.lL;refine enter Tryz.func203 Tryz.ntmps203 rfl rfl (xOpen2 hs) ?_;simp only[mkS];refine J0 ?_;refine j_alloc (λ x4=>?_);refine l_nil ?_;refine Kd6 ?_;refine j_ownF (cM (hc:=λ w hs=>mNode_c (L:=x.L) (cs:=x.cs) hs r hr (by omega))) (λ x10 h10=>?_);refine J5 ?_;refine k_rt Tryz.results203 (λ w hw=>?_);exact⟨(),rfl,trivial,hw.finH⟩
theorem alloc_st{n:Nd}(i:Int)(h:x.st=true)(hs:SF w D (xH k bx bm x dn rs) A [] (xW x) w):Calls prog 207 #[.pointer (some ⟨bx,0,none⟩),n.v,.int .i64 i] w λ e w'=>∃q:Unit,e=.returned (.int .i64 0)/\True/\SF w D (xH k bx bm x dn rs) [] [] (xW x) w':=by
 refine enter Tryz.func207 Tryz.ntmps207 rfl rfl (xOpen2 hs) ?_;simp only[mkS];simp only[Nd.v];refine J0 ?_;refine j_box (λ x4=>?_);refine J27 ?_;refine Kc3 ?_;refine kif (λ c10=>?_) (λ c10=>?_);·refine J10 ?_;refine k_rv Tryz.results207 (λ w hw=>?_);exact⟨(),rfl,trivial,hw.finH⟩
 ·exact absurd (h.symm.trans c10) (by decide)
theorem alloc_old{n:Nd}(i:Int)(ok:x.Ok)(h:x.st=false)(h1:x.m<x.made.length)(hl:x.made.length<=274877906944)(hs:SF w D (xH k bx bm x dn rs) A [] (xW x) w):Calls prog 207 #[.pointer (some ⟨bx,0,none⟩),n.v,.int .i64 i] w λ e w'=>∃q:Unit,e=.returned (.int .i64 (x.made.getD x.m 0))/\True/\SF w D (xH k bx bm {x with m:=x.m+1} dn rs) [] [] (xW {x with m:=x.m+1}) w':=by
 refine enter Tryz.func207 Tryz.ntmps207 rfl rfl (xOpen2 hs) ?_;simp only[mkS];simp only[Nd.v];refine J0 ?_;refine j_box (λ x4=>?_);refine J27 ?_;refine Kc3 ?_;refine kif (λ c10=>?_) (λ c10=>?_)
 ·try (exfalso;omega)
  exact absurd (h.symm.trans c10) (by decide)
 ·try (exfalso;omega)
  refine J16 ?_;refine k_seq ?_;refine k_dq [0,1,2,3,4,5,6,7,8,9] ?_;refine Kf1 ?_;refine r_eql ?_;refine r_fin ?_;refine kif (λ c20=>?_) (λ c20=>?_);·try (exfalso;omega)
  ·try (exfalso;omega)
   refine J83 ?_;refine l_quiet (o_addN (m:=x.m) (n:=1) rf rf (by omega)) rfl ?_;refine J49 ?_;refine j_own0 (by exact lSF λ _=>o_store rf atT wn rf on1 rf rf se2) (λ _=>?_);refine J80 ?_;refine k_dq [0,1,2,3,4,5,6,7,8,9,10,11] ?_;refine J42 ?_;refine r_ownP (i:=8) (hq:=(o_subN (m:=x.m+1) (n:=1) rf rf (by omega) (by omega))) (h:=?_);refine r_ownQ (i:=9) (hq:=(o_indexR (m:=x.made.length) (k:=x.m+1-1) (lst:=x.made) rf rf sl1 on1 (.own (.tail .head)) (by omega) (by omega))) (h:=?_);refine r_ownQ (i:=10) (hq:=(o_loadR (q:=x.m+1-1) (lst:=x.made) rf on1 (.own (.tail .head)) (by omega))) (h:=?_);refine J7 ?_;refine k_rv Tryz.results207 (λ w hw=>?_);exact⟨(),by rw[Nat.add_sub_cancel];rfl,trivial,hw.finH⟩
theorem alloc_now{n:Nd}{xs:List Int}{ys:List Pr}(i:Int)(ok:x.Ok)(h:x.st=false)(h1:x.m=x.made.length)(hl:x.made.length<=137438953472)(hLl:x.L.length<=274877906900)(hcl:x.cs.length<=274877906900)(e1:n.brN=xs.length)(e2:n.prN=ys.length)(hx:xs.length<=274877906944)(hy:ys.length<=274877906944)(hs:SF w D (xH k bx bm x dn rs) [(n.brA,refsC xs),(n.prA,prC ys)] [] (xW x) w):Calls prog 207 #[.pointer (some ⟨bx,0,none⟩),n.v,.int .i64 i] w λ e w'=>∃q:AX×(Option Addr×Nat),e=.returned (.int .i64 ((x.L.length+1:Nat):Int))/\True /\
   SF w D (xH k bx bm {x with L:=x.L++[alV n xs ys x.cs.length q.1],cs:=alCs n.kind x.cs i,pn:=q.1.pn,cn:=q.1.cn,pc:=q.1.pc,cc:=q.1.cc,made:=x.made++[((x.L.length+1:Nat):Int)],pm:=q.2.1,km:=q.2.2,m:=x.m+1} dn rs) [] (alV n xs ys x.cs.length q.1).fr (xW {x with L:=x.L++[alV n xs ys x.cs.length q.1],cs:=alCs n.kind x.cs i,pn:=q.1.pn,cn:=q.1.cn,pc:=q.1.pc,cc:=q.1.cc,made:=x.made++[((x.L.length+1:Nat):Int)],pm:=q.2.1,km:=q.2.2,m:=x.m+1}) w':=by
 refine enter Tryz.func207 Tryz.ntmps207 rfl rfl (xOpen2 hs) ?_;simp only[mkS];simp only[Nd.v];refine J0 ?_;refine j_box (λ x4=>?_);refine J27 ?_;refine Kc3 ?_;refine kif (λ c10=>?_) (λ c10=>?_)
 ·try (exfalso;omega)
  exact absurd (h.symm.trans c10) (by decide)
 ·try (exfalso;omega)
  refine J16 ?_;refine k_seq ?_;refine k_dq [0,1,2,3,4,5,6,7,8,9] ?_;refine Kf1 ?_;refine r_eql ?_;refine r_fin ?_;refine kif (λ c20=>?_) (λ c20=>?_)
  ·try (exfalso;omega)
   refine k_dp [(0,[]),(1,[]),(2,[]),(3,[]),(4,[]),(5,[]),(6,[]),(7,[]),(8,[]),(9,[]),(10,[]),(11,[4]),(12,[4]),(13,[]),(14,[]),(15,[]),(16,[])] ?_;refine r_move ?_;refine J42 ?_;refine Ke0 ?_;refine r_ownF (i:=11) (hq:=(cM (A0:=[(n.brA,refsC xs),(n.prA,prC ys)]) (hc:=λ w hs=>mAlloc_c (n:=n) (L:=x.L) (cs:=x.cs) i hs e1 e2 hx hy (by omega) (by omega)))) (h:=λ x32 h32=>?_);refine r_buildSlice (h:=λ x33=>?_);((refine r_own (i:=13) (hq:=(Loud.convOF (o_appR1 (l:=x.made) (m:=x.made.length) rf rf (.tail .head) rfl fin er1 sl1 (by omega)) co1)) (h:=λ x34=>?_);try (refine r_fact (λ h34=>?_))));refine J4 ?_;refine r_own0 (i:=16) (hq:=(by exact lSF λ _=>o_store rf atT wn rf on1 rf rf se2)) (h:=λ _=>?_);refine r_fin ?_;refine J26 ?_;refine l_quiet (o_addN (m:=x.m) (n:=1) rf rf (by omega)) rfl ?_;refine J49 ?_;refine j_own0 (by exact lSF λ _=>o_store rf atT wn rf on1 rf rf se2) (λ _=>?_);refine J80 ?_;refine k_dq [0,1,2,3,4,5,6,7,8,9,10,11] ?_;refine J42 ?_;refine r_ownP (i:=8) (hq:=(o_subN (m:=x.m+1) (n:=1) rf rf (by omega) (by omega))) (h:=?_);refine r_ownQ (i:=9) (hq:=(o_indexR (m:=x.made.length+1) (k:=x.m+1-1) rf rf sl1 on1 (.own (.tail .head)) (by omega) (by rw[List.length_append,List.length_cons,List.length_nil];omega))) (h:=?_);refine r_ownQ (i:=10) (hq:=(o_loadR (q:=x.m+1-1) rf on1 (.own (.tail .head)) (by rw[List.length_append,List.length_cons,List.length_nil];omega))) (h:=?_);refine J7 ?_;refine k_rv Tryz.results207 (λ w hw=>?_);rw[show x.made.length+1=(x.made++[((x.L.length+1:Nat):Int)]).length by simp] at hw;exact⟨(x32,x34),by rw[show x.m+1-1=x.made.length by omega,snoc_last];rfl,trivial,hw.ret (List.Sublist.cons _ (List.Sublist.refl _)) (FSub.ofSub λ f hf=>List.mem_cons_of_mem _ (List.mem_append_left _ hf)) (List.Sublist.refl _)⟩
  ·try (exfalso;omega)
end
end
section
theorem zeroE_cellL:zeroIs prog 33=some (.int .i64 0):=by kernel_rfl
theorem elem_cellL:ElemIs prog 147 33 [.int .i64 0]:=elem_mk (by kernel_rfl) zeroE_cellL rfl
section
variable{k:Cl}{bx bm:Nat}{x:XS}{dn:Bool}{rs:Rs}{D:List Nat}{A:Fr}{w:World}
theorem cell_st(i:Int)(h:x.st=true)(hs:SF w D (xH k bx bm x dn rs) A [] (xW x) w):Calls prog 221 #[.pointer (some ⟨bx,0,none⟩),.int .i64 i] w λ e w'=>∃q:Unit,e=.returned (.int .i64 0)/\True/\SF w D (xH k bx bm x dn rs) [] [] (xW x) w':=by
 refine enter Tryz.func221 Tryz.ntmps221 rfl rfl (xOpen2 hs) ?_;simp only[mkS];refine J75 ?_;refine Kc3 ?_;refine kif (λ c8=>?_) (λ c8=>?_);·refine J10 ?_;refine k_rv Tryz.results221 (λ w hw=>?_);exact⟨(),rfl,trivial,hw.finH⟩
 ·exact absurd (h.symm.trans c8) (by decide)
theorem cell_old(i:Int)(h:x.st=false)(h1:x.c<x.cel.length)(hl:x.cel.length<=274877906944)(hs:SF w D (xH k bx bm x dn rs) A [] (xW x) w):Calls prog 221 #[.pointer (some ⟨bx,0,none⟩),.int .i64 i] w λ e w'=>∃q:Unit,e=.returned (.int .i64 (x.cel.getD x.c 0))/\True/\SF w D (xH k bx bm {x with c:=x.c+1} dn rs) [] [] (xW {x with c:=x.c+1}) w':=by
 refine enter Tryz.func221 Tryz.ntmps221 rfl rfl (xOpen2 hs) ?_;simp only[mkS];refine J75 ?_;refine Kc3 ?_;refine kif (λ c8=>?_) (λ c8=>?_)
 ·try (exfalso;omega)
  exact absurd (h.symm.trans c8) (by decide)
 ·try (exfalso;omega)
  refine J16 ?_;refine k_seq ?_;refine k_dq [0,1,2,3,4,5,6,7,8,9] ?_;refine Kf1 ?_;refine r_eql ?_;refine r_fin ?_;refine kif (λ c18=>?_) (λ c18=>?_);·try (exfalso;omega)
  ·try (exfalso;omega)
   refine J83 ?_;refine l_quiet (o_addN (m:=x.c) (n:=1) rf rf (by omega)) rfl ?_;refine J49 ?_;refine j_own0 (by exact lSF λ _=>o_store rf atT wn rf on1 rf rf se2) (λ _=>?_);refine J80 ?_;refine k_dq [0,1,2,3,4,5,6,7,8,9,10,11] ?_;refine J42 ?_;refine r_ownP (i:=8) (hq:=(o_subN (m:=x.c+1) (n:=1) rf rf (by omega) (by omega))) (h:=?_);refine r_ownQ (i:=9) (hq:=(o_indexR (m:=x.cel.length) (k:=x.c+1-1) (lst:=x.cel) rf rf sl1 on1 (.own (.tail (.tail .head))) (by omega) (by omega))) (h:=?_);refine r_ownQ (i:=10) (hq:=(o_loadR (q:=x.c+1-1) (lst:=x.cel) rf on1 (.own (.tail (.tail .head))) (by omega))) (h:=?_);refine J7 ?_;refine k_rv Tryz.results221 (λ w hw=>?_);exact⟨(),by rw[Nat.add_sub_cancel];rfl,trivial,hw.finH⟩
theorem cell_now(i:Int)(h:x.st=false)(h1:x.c=x.cel.length)(hl:x.cel.length<=137438953472)(hcl:x.cs.length<=274877906900)(hs:SF w D (xH k bx bm x dn rs) A [] (xW x) w):Calls prog 221 #[.pointer (some ⟨bx,0,none⟩),.int .i64 i] w λ e w'=>∃q:(Option Addr×Nat)×(Option Addr×Nat),e=.returned (.int .i64 ((x.cs.length+1:Nat):Int))/\True /\
   SF w D (xH k bx bm {x with cs:=x.cs++[i],pc:=q.1.1,cc:=q.1.2,cel:=x.cel++[((x.cs.length+1:Nat):Int)],pl:=q.2.1,kl:=q.2.2,c:=x.c+1} dn rs) [] [] (xW {x with cs:=x.cs++[i],pc:=q.1.1,cc:=q.1.2,cel:=x.cel++[((x.cs.length+1:Nat):Int)],pl:=q.2.1,kl:=q.2.2,c:=x.c+1}) w':=by
 refine enter Tryz.func221 Tryz.ntmps221 rfl rfl (xOpen2 hs) ?_;simp only[mkS];refine J75 ?_;refine Kc3 ?_;refine kif (λ c8=>?_) (λ c8=>?_)
 ·try (exfalso;omega)
  exact absurd (h.symm.trans c8) (by decide)
 ·try (exfalso;omega)
  refine J16 ?_;refine k_seq ?_;refine k_dq [0,1,2,3,4,5,6,7,8,9] ?_;refine Kf1 ?_;refine r_eql ?_;refine r_fin ?_;refine kif (λ c18=>?_) (λ c18=>?_)
  ·try (exfalso;omega)
   refine k_dp [(0,[]),(1,[]),(2,[]),(3,[]),(4,[]),(5,[]),(6,[]),(7,[]),(8,[]),(9,[]),(10,[4]),(11,[4]),(12,[]),(13,[]),(14,[]),(15,[])] ?_;refine r_move ?_;refine J42 ?_;refine r_move ?_;refine r_ownF (i:=10) (hq:=(cM (hc:=λ w hs=>mNewCell_c (L:=x.L) (cs:=x.cs) i hs (by omega)))) (h:=λ x29 h29=>?_);refine r_own (i:=11) (hq:=((by exact lSFF (λ _=>o_buildSlice (cs:=refsC [((x.cs.length+1:Nat):Int)]) elem_cellL pa1 rfl rfl rfl rfl rfl)))) (h:=λ x30=>?_);((refine r_own (i:=12) (hq:=(Loud.convOF (o_appR1 (l:=x.cel) (m:=x.cel.length) rf rf (.tail (.tail .head)) rfl fin (by exact elem_cellL) sl1 (by omega)) co1)) (h:=λ x31=>?_);try (refine r_fact (λ h31=>?_))));refine J4 ?_;refine r_own0 (i:=15) (hq:=(by exact lSF λ _=>o_store rf atT wn rf on1 rf rf se2)) (h:=λ _=>?_);refine r_fin ?_;refine J26 ?_;refine l_quiet (o_addN (m:=x.c) (n:=1) rf rf (by omega)) rfl ?_;refine J49 ?_;refine j_own0 (by exact lSF λ _=>o_store rf atT wn rf on1 rf rf se2) (λ _=>?_);refine J80 ?_;refine k_dq [0,1,2,3,4,5,6,7,8,9,10,11] ?_;refine J42 ?_;refine r_ownP (i:=8) (hq:=(o_subN (m:=x.c+1) (n:=1) rf rf (by omega) (by omega))) (h:=?_);refine r_ownQ (i:=9) (hq:=(o_indexR (m:=x.cel.length+1) (k:=x.c+1-1) rf rf sl1 on1 (.own (.tail (.tail .head))) (by omega) (by rw[List.length_append,List.length_cons,List.length_nil];omega))) (h:=?_);refine r_ownQ (i:=10) (hq:=(o_loadR (q:=x.c+1-1) rf on1 (.own (.tail (.tail .head))) (by rw[List.length_append,List.length_cons,List.length_nil];omega))) (h:=?_);refine J7 ?_;refine k_rv Tryz.results221 (λ w hw=>?_);rw[show x.cel.length+1=(x.cel++[((x.cs.length+1:Nat):Int)]).length by simp] at hw;exact⟨(x29,x31),by rw[show x.c+1-1=x.cel.length by omega,snoc_last];rfl,trivial,hw.finH⟩
  ·try (exfalso;omega)
theorem gen_st(h:x.st=true)(hs:SF w D (xH k bx bm x dn rs) A [] (xW x) w):Calls prog 223 #[.pointer (some ⟨bx,0,none⟩)] w λ e w'=>∃q:Unit,e=.returned (.int .i64 0)/\True/\SF w D (xH k bx bm x dn rs) [] [] (xW x) w':=by
 refine enter Tryz.func223 Tryz.ntmps223 rfl rfl (xOpen2 hs) ?_;simp only[mkS];refine J75 ?_;refine Kc3 ?_;refine kif (λ c6=>?_) (λ c6=>?_);·refine J10 ?_;refine k_rv Tryz.results223 (λ w hw=>?_);exact⟨(),rfl,trivial,hw.finH⟩
 ·exact absurd (h.symm.trans c6) (by decide)
theorem gen_old(h:x.st=false)(h1:x.g<x.gns.length)(hl:x.gns.length<=274877906944)(hs:SF w D (xH k bx bm x dn rs) A [] (xW x) w):Calls prog 223 #[.pointer (some ⟨bx,0,none⟩)] w λ e w'=>∃q:Unit,e=.returned (.int .i64 (x.gns.getD x.g 0))/\True/\SF w D (xH k bx bm {x with g:=x.g+1} dn rs) [] [] (xW {x with g:=x.g+1}) w':=by
 refine enter Tryz.func223 Tryz.ntmps223 rfl rfl (xOpen2 hs) ?_;simp only[mkS];refine J75 ?_;refine Kc3 ?_;refine kif (λ c6=>?_) (λ c6=>?_)
 ·try (exfalso;omega)
  exact absurd (h.symm.trans c6) (by decide)
 ·try (exfalso;omega)
  refine J16 ?_;refine k_seq ?_;refine k_dq [0,1,2,3,4,5,6,7,8,9] ?_;refine Kf1 ?_;refine r_eql ?_;refine r_fin ?_;refine kif (λ c16=>?_) (λ c16=>?_);·try (exfalso;omega)
  ·try (exfalso;omega)
   refine J83 ?_;refine l_quiet (o_addN (m:=x.g) (n:=1) rf rf (by omega)) rfl ?_;refine J49 ?_;refine j_own0 (by exact lSF λ _=>o_store rf atT wn rf on1 rf rf se2) (λ _=>?_);refine J80 ?_;refine k_dq [0,1,2,3,4,5,6,7,8,9,10,11] ?_;refine J42 ?_;refine r_ownP (i:=8) (hq:=(o_subN (m:=x.g+1) (n:=1) rf rf (by omega) (by omega))) (h:=?_);refine r_ownQ (i:=9) (hq:=(o_indexR (m:=x.gns.length) (k:=x.g+1-1) (lst:=x.gns) rf rf sl1 on1 (.own (.tail (.tail (.tail .head)))) (by omega) (by omega))) (h:=?_);refine r_ownQ (i:=10) (hq:=(o_loadR (q:=x.g+1-1) (lst:=x.gns) rf on1 (.own (.tail (.tail (.tail .head)))) (by omega))) (h:=?_);refine J7 ?_;refine k_rv Tryz.results223 (λ w hw=>?_);exact⟨(),by rw[Nat.add_sub_cancel];rfl,trivial,hw.finH⟩
theorem gen_now(h:x.st=false)(h1:x.g=x.gns.length)(hl:x.gns.length<=137438953472)(hgn : -1<=x.gen/\x.gen<=137438953600)(hs:SF w D (xH k bx bm x dn rs) A [] (xW x) w):Calls prog 223 #[.pointer (some ⟨bx,0,none⟩)] w λ e w'=>∃q:Option Addr×Nat,e=.returned (.int .i64 (x.gen+1))/\True /\
   SF w D (xH k bx bm {x with gen:=x.gen+1,gns:=x.gns++[x.gen+1],pe:=q.1,ke:=q.2,g:=x.g+1} dn rs) [] [] (xW {x with gen:=x.gen+1,gns:=x.gns++[x.gen+1],pe:=q.1,ke:=q.2,g:=x.g+1}) w':=by
 have hup:up x.gen=x.gen+1:=wrap_i64 (by omega) (by omega);refine enter Tryz.func223 Tryz.ntmps223 rfl rfl (xOpen2 hs) ?_;simp only[mkS];refine J75 ?_;refine Kc3 ?_;refine kif (λ c6=>?_) (λ c6=>?_)
 ·try (exfalso;omega)
  exact absurd (h.symm.trans c6) (by decide)
 ·try (exfalso;omega)
  refine J16 ?_;refine k_seq ?_;refine k_dq [0,1,2,3,4,5,6,7,8,9] ?_;refine Kf1 ?_;refine r_eql ?_;refine r_fin ?_;refine kif (λ c16=>?_) (λ c16=>?_)
  ·try (exfalso;omega)
   refine k_dp [(0,[]),(1,[]),(2,[]),(3,[]),(4,[]),(5,[]),(6,[]),(7,[]),(8,[]),(9,[4]),(10,[4]),(11,[]),(12,[]),(13,[]),(14,[])] ?_;refine r_move ?_;refine J42 ?_;refine r_ownF (i:=9) (hq:=(cM (hc:=λ w hs=>mNewGen_c (L:=x.L) (cs:=x.cs) (gen:=x.gen) hs))) (h:=λ x26 h26=>?_);refine r_buildSlice (h:=λ x27=>?_);((refine r_own (i:=11) (hq:=(Loud.convOF (o_appR1 (l:=x.gns) (m:=x.gns.length) rf rf (.tail (.tail (.tail .head))) rfl fin (by exact elem_int) sl1 (by omega)) co1)) (h:=λ x28=>?_);try (refine r_fact (λ h28=>?_))));refine J4 ?_;refine r_own0 (i:=14) (hq:=(by exact lSF λ _=>o_store rf atT wn rf on1 rf rf se2)) (h:=λ _=>?_);refine r_fin ?_;refine J26 ?_;refine l_quiet (o_addN (m:=x.g) (n:=1) rf rf (by omega)) rfl ?_;refine J49 ?_;refine j_own0 (by exact lSF λ _=>o_store rf atT wn rf on1 rf rf se2) (λ _=>?_);refine J80 ?_;refine k_dq [0,1,2,3,4,5,6,7,8,9,10,11] ?_;refine J42 ?_;refine r_ownP (i:=8) (hq:=(o_subN (m:=x.g+1) (n:=1) rf rf (by omega) (by omega))) (h:=?_);refine r_ownQ (i:=9) (hq:=(o_indexR (m:=x.gns.length+1) (k:=x.g+1-1) rf rf sl1 on1 (.own (.tail (.tail (.tail .head)))) (by omega) (by rw[List.length_append,List.length_cons,List.length_nil];omega))) (h:=?_);refine r_ownQ (i:=10) (hq:=(o_loadR (q:=x.g+1-1) rf on1 (.own (.tail (.tail (.tail .head)))) (by rw[List.length_append,List.length_cons,List.length_nil];omega))) (h:=?_);refine J7 ?_;refine k_rv Tryz.results223 (λ w hw=>?_);rw[hup,show x.gns.length+1=(x.gns++[x.gen+1]).length by simp] at hw;exact⟨x28,by rw[show x.g+1-1=x.gns.length by omega,snoc_last,hup];rfl,trivial,hw.finH⟩
  ·try (exfalso;omega)
end
end
end Go.Proofs.YtdnklbipddigbaaGreat
namespace Go.Ct
open Go Go.RowKit
section
section
variable{g:Gx}{x:XS}{N:List NdV}
theorem XS.Ok.upa(h:x.Ok){y:XS}(e1:y.L=x.L)(e2:y.cs=x.cs)(e3:y.got=x.got)(e4:y.made=x.made)(e5:y.cel=x.cel)(e6:y.gns=x.gns)(ha:y.a<=x.got.length)(hm:y.m<=x.made.length)(hc:y.c<=x.cel.length)(hg:y.g<=x.gns.length)(hf:y.fr<=1)(e7:y.gen=x.gen:=by rfl):y.Ok :=⟨by rw[e1];exact h.fit,by rw[e1,e2];exact h.nd,by rw[e1,e2];exact h.cs,by rw[e1,e3];exact h.got,by rw[e1,e4];exact h.made,by rw[e1];exact h.two,by rw[e1];exact h.lL,by rw[e2];exact h.lc,by rw[e3];exact h.lg,by rw[e3];exact ha,by rw[e4];exact hm,by rw[e5];exact hc,by rw[e6];exact hg,hf,by rw[e1];exact h.ys,by rw[e7];exact h.gen0,by rw[e4];exact h.ms,by rw[e4];exact h.m1⟩
theorem Nx.st{t:Tr}(hs:x.st=true)(go:Go' g x t)(ok:x.Ok){t':Tr}:Nx g x x [] t' 0:=⟨go.stopped hs,ok,by simp,Nat.le_refl _,nn0 _⟩
theorem Nx.weak{x':XS}{t t':Tr}{b b':Int}(h:Nx g x x' N t b)(go:Go' g x' t')(hb:b'<=x'.L.length):Nx g x x' N t' b':=⟨go,h.ok,h.ext,h.lc,hb⟩
theorem Nx.len{x':XS}{t:Tr}{b:Int}(h:Nx g x x' N t b):x.L.length<=x'.L.length:=by rw[h.ext,List.length_append];omega
theorem Nx.trans{x1 x2:XS}{N1 N2:List NdV}{t1 t2:Tr}{b1 b2:Int}(h1:Nx g x x1 N1 t1 b1)(h2:Nx g x1 x2 N2 t2 b2):Nx g x x2 (N1++N2) t2 b2:=⟨h2.go,h2.ok,by rw[h2.ext,h1.ext,List.append_assoc],Nat.le_trans h1.lc h2.lc,h2.bd⟩
theorem Nx.ext'{x':XS}{t t':Tr}{b b':Int}(h:Nx g x x' (N++[]) t b)(go:Go' g x' t')(hb:b'<=x'.L.length):Nx g x x' N t' b':=⟨go,h.ok,by have:=h.ext;rwa [List.append_nil] at this,h.lc,hb⟩
theorem Nx.start{t:Tr}(go:Go' g x t)(ok:x.Ok):Nx g x x [] t 0:=⟨go,ok,by simp,Nat.le_refl _,nn0 _⟩
end
end
end Go.Ct
namespace Go.Proofs.YtdnklbipddigbaaGreat
open Go Go.RowKit Go.Ct
section
section
variable{k:Cl}{bx bm:Nat}{x:XS}{dn:Bool}{rs:Rs}{D:List Nat}{A:Fr}{w:World}{g:Gx}
theorem load_c(hg:g.Ok)(c:Int)(K:Int->Tr)(hc:c<=9223372036854775807)(go:Go' g x (.load c K))(ok:x.Ok)(hs:SF w D (xH k bx bm x dn rs) A [] (xW x) w):Calls Tryz.prog 202 #[.pointer (some ⟨bx,0,none⟩),.int .i64 c] w λ e w'=>∃q:Int×XS,e=.returned (.int .i64 q.1)/\Nx g x q.2 [] (K q.1) q.1/\SF w D (xH k bx bm q.2 dn rs) [] [] (xW q.2) w':=by
 cases hst:x.st with
 | true=>exact(load_st c ok hst hs).mono λ e w' ⟨_,q1,_,q3⟩=>⟨(0,x),q1,Nx.st hst go ok,q3⟩
 | false=>
  have hgd:=go.run hst;by_cases h1:x.a<x.got.length;·refine(load_old c ok hst h1 hs).mono λ e w' ⟨_,q1,_,q3⟩=>⟨(x.got.getD x.a 0,{x with a:=x.a+1}),q1,?_,q3⟩;exact⟨.inl ⟨hst,hgd.load_old h1⟩,ok.upa rfl rfl rfl rfl rfl rfl h1 ok.lm ok.lk ok.le ok.fr,by simp,Nat.le_refl _,getD_le ok.got _⟩
  ·have hat:=hgd.load_at h1;by_cases h2:x.fr=0;·refine(load_no c ok hst h1 h2 hs).mono λ e w' ⟨_,q1,_,q3⟩=>⟨(0,{x with st:=true,nx:=⟨1,c,0,0⟩}),q1,?_,q3⟩;have hgo:Go' g {x with st:=true,nx:=⟨1,c,0,0⟩} (.load c K):=hat.stop h2 rfl rfl rfl rfl rfl rfl rfl rfl rfl;exact⟨hgo.stopped rfl,ok.upa rfl rfl rfl rfl rfl rfl ok.la ok.lm ok.lk ok.le ok.fr,by simp,Nat.le_refl _,nn0 _⟩
   ·refine(load_now c hc ok hst h1 h2 hs).mono λ e w' ⟨q,q1,_,q3⟩=>⟨(cellV x.cs c,{x with fr:=x.fr-1,acc:=up x.acc,got:=x.got++[cellV x.cs c],pg:=q.1,kg:=q.2,a:=x.a+1}),q1,?_,q3⟩;have hN:=hat.hN;have hgN:=hg.hN;have hgo:Go' g {x with fr:=x.fr-1,acc:=up x.acc,got:=x.got++[cellV x.cs c],pg:=q.1,kg:=q.2,a:=x.a+1} (K (cellV x.cs c)):=hat.now (by omega) (λ L=>Wk.load1 _) (.load c K x.mm) hst rfl rfl rfl rfl rfl rfl rfl rfl rfl rfl
    refine⟨hgo,⟨ok.fit,ok.nd,ok.cs,λ v hv=>?_,ok.made,ok.two,ok.lL,ok.lc,?_,?_,ok.lm,ok.lk,ok.le,?_,ok.ys,ok.gen0,ok.ms,ok.m1⟩,by simp,Nat.le_refl _,ok.cell c⟩
    ·rcases List.mem_append.1 hv with hv|hv;·exact ok.got v hv
     ·rw[List.mem_singleton.1 hv];exact ok.cell c
    ·show(x.got++[cellV x.cs c]).length<=_;rw[List.length_append,List.length_cons,List.length_nil];omega
    ·show x.a+1<=(x.got++[cellV x.cs c]).length;have:=ok.la;rw[List.length_append,List.length_cons,List.length_nil];omega
    ·show x.fr-1<=1;have:=ok.fr;omega
theorem cas_c(hg:g.Ok)(c o n:Int)(K:Bool->Tr)(hc:c<=9223372036854775807)(hn:n<=x.L.length)(go:Go' g x (.cas c o n K))(ok:x.Ok)(hs:SF w D (xH k bx bm x dn rs) A [] (xW x) w):Calls Tryz.prog 204 #[.pointer (some ⟨bx,0,none⟩),.int .i64 c,.int .i64 o,.int .i64 n] w λ e w'=>∃q:Bool×XS,e=.returned (.bool q.1)/\Nx g x q.2 [] (K q.1) 0/\SF w D (xH k bx bm q.2 dn rs) [] [] (xW q.2) w':=by
 cases hst:x.st with
 | true=>exact(cas_st c o n ok hst hs).mono λ e w' ⟨_,q1,_,q3⟩=>⟨(false,x),q1,Nx.st hst go ok,q3⟩
 | false=>
  have hgd:=go.run hst;by_cases h1:x.a<x.got.length;·refine(cas_old c o n ok hst h1 hs).mono λ e w' ⟨_,q1,_,q3⟩=>⟨(x.got.getD x.a 0==1,{x with a:=x.a+1}),q1,?_,q3⟩;exact⟨.inl ⟨hst,hgd.cas_old h1⟩,ok.upa rfl rfl rfl rfl rfl rfl h1 ok.lm ok.lk ok.le ok.fr,by simp,Nat.le_refl _,nn0 _⟩
  ·have hat:=hgd.cas_at h1;by_cases h2:x.fr=0;·refine(cas_no c o n ok hst h1 h2 hs).mono λ e w' ⟨_,q1,_,q3⟩=>⟨(false,{x with st:=true,nx:=⟨2,c,o,n⟩}),q1,?_,q3⟩;have hgo:Go' g {x with st:=true,nx:=⟨2,c,o,n⟩} (.cas c o n K):=hat.stop h2 rfl rfl rfl rfl rfl rfl rfl rfl rfl;exact⟨hgo.stopped rfl,ok.upa rfl rfl rfl rfl rfl rfl ok.la ok.lm ok.lk ok.le ok.fr,by simp,Nat.le_refl _,nn0 _⟩
   ·refine(cas_now c o n hc ok hst h1 h2 hs).mono λ e w' ⟨q,q1,hb,q3⟩=>⟨(q.1,{x with fr:=x.fr-1,cs:=casL x.cs c o n,acc:=up x.acc,got:=x.got++[b01 q.1],pg:=q.2.1,kg:=q.2.2,a:=x.a+1}),q1,?_,q3⟩;have hN:=hat.hN;have hgN:=hg.hN;have hb1:(b01 q.1==1)=q.1:=by cases q.1<;>rfl
    have hb2:b01 q.1<=x.L.length:=by have:=ok.two;cases q.1<;>simp only[b01]<;>(omega)
    have hlc:=casL_length (cs:=x.cs) (c:=c) (old:=o) (new:=n);have hgo:Go' g {x with fr:=x.fr-1,cs:=casL x.cs c o n,acc:=up x.acc,got:=x.got++[b01 q.1],pg:=q.2.1,kg:=q.2.2,a:=x.a+1} (K q.1):=hat.now (v:=b01 q.1) (by omega) (λ L=>by have:=Wk.cas1 (L:=L) (c:=c) (o:=o) (n:=n) (k:=K) (b01 q.1);rw[hb1] at this;exact this) (.cas c o n K x.mm q.1 hb) hst rfl rfl rfl rfl rfl rfl rfl rfl rfl rfl
    refine⟨hgo,⟨ok.fit,λ v hv=>(ok.nd v hv).mono (Nat.le_refl _) (by show _<=(casL x.cs c o n).length;omega),λ v hv=>?_,λ v hv=>?_,ok.made,ok.two,ok.lL,by show(casL x.cs c o n).length<=_;rw[hlc];exact ok.lc,?_,?_,ok.lm,ok.lk,ok.le,?_,ok.ys,ok.gen0,ok.ms,ok.m1⟩,by simp,by show _<=(casL x.cs c o n).length;omega,nn0 _⟩
    ·have hv':v∈casL x.cs c o n:=hv;unfold casL at hv';split at hv'
     ·rcases List.mem_or_eq_of_mem_set hv' with h|h;·exact ok.cs v h
      ·rw[h];exact hn
     ·exact ok.cs v hv'
    ·rcases List.mem_append.1 hv with hv|hv;·exact ok.got v hv
     ·rw[List.mem_singleton.1 hv];exact hb2
    ·show(x.got++[b01 q.1]).length<=_;rw[List.length_append,List.length_cons,List.length_nil];omega
    ·show x.a+1<=(x.got++[b01 q.1]).length;have:=ok.la;rw[List.length_append,List.length_cons,List.length_nil];omega
    ·show x.fr-1<=1;have:=ok.fr;omega
end
end
end Go.Proofs.YtdnklbipddigbaaGreat
