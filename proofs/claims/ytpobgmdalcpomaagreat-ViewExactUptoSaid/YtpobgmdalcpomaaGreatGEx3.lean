/- Executions of the reference: nodes, allocations, cells, generations. -/
import Derived.Test.YtpobgmdalcpomaaGreatEx2

set_option linter.unusedSimpArgs false
set_option linter.unusedVariables false
namespace Go.Proofs.YtpobgmdalcpomaaGreat
section
open Go Go.RowKit Go.Ct
section
variable{k:Cl}{bx bm:Nat}{x:XS}{dn:Bool}{rs:Rs}{D:List Nat}{A:Fr}{w:World}
theorem fK(r:Int)(hr:r<=9223372036854775807)(ok:x.Ok)(hs:SF w D (xH k bx bm x dn rs) A [] (xW x) w):Calls Tryz.prog 105 #[.pointer (some ⟨bx,0,none⟩),.int .i64 r] w λ e w'=>∃q:Unit,e=.returned (aD x.L r).nd.v/\True/\SF w D (xH k bx bm x dn rs) [] [] (xW x) w':=by
 have hl:=ok.lL
 refine enter Tryz.func105 Tryz.ntmps105 rfl rfl (cN hs) ?_
 simp only[dB]
 all_goals (refine J0 ?_;refine aY (λ x4=>?_);refine aN ?_;refine kZ ?_;refine aA ?_;(refine aF (cM (hc:=λ w hs=>dr (L:=x.L) (cs:=x.cs) hs r hr (by omega))) (λ x10=>?_);try (refine aB (λ h10=>?_)));refine J5 ?_)
 all_goals
 refine bH Tryz.results105 (λ w hw=>?_)
 exact⟨(),rfl,trivial,hw.aV⟩
theorem Wv{n:Nd}(i:Int)(h:x.st=true)(hs:SF w D (xH k bx bm x dn rs) A [] (xW x) w):Calls Tryz.prog 109 #[.pointer (some ⟨bx,0,none⟩),n.v,.int .i64 i] w λ e w'=>∃q:Unit,e=.returned (.int .i64 0)/\True/\SF w D (xH k bx bm x dn rs) [] [] (xW x) w':=by
 refine enter Tryz.func109 Tryz.ntmps109 rfl rfl (cN hs) ?_
 simp only[dB]
 simp only[Nd.v]
 all_goals (refine J0 ?_;refine bM (λ x4=>?_);refine iI ?_;refine kZ ?_;refine aN ?_)
 all_goals
 refine bF (λ c10=>?_) (λ c10=>?_)
 ·try exact nv c10
  all_goals refine dH ?_
  all_goals
   refine aR Tryz.results109 (λ w hw=>?_)
   exact⟨(),rfl,trivial,hw.aV⟩
 ·try exact nv c10
  all_goals
   exact absurd (h.symm.trans c10) (by decide)
  all_goals (refine iW ?_;refine aT ?_;refine eE [0,1,2,3,4,5,6,7,8,9] ?_;refine mY ?_;refine jD ?_;refine mD ?_;refine eO ?_)
  all_goals
   refine bF (λ c20=>?_) (λ c20=>?_)
   ·try exact nv c20
    all_goals (refine dL [(0,[]),(1,[]),(2,[]),(3,[]),(4,[]),(5,[]),(6,[]),(7,[]),(8,[]),(9,[]),(10,[]),(11,[4]),(12,[4]),(13,[]),(14,[]),(15,[]),(16,[])] ?_;refine aL ?_;refine mY ?_;refine bT ?_;refine aL ?_;((refine bA (i:=11) (hq:=(NO)) (h:=λ x32=>?_);try (refine aK (λ h32=>?_))));refine bB (h:=λ x33=>?_);((refine cR (h:=λ x34=>?_);try (refine aK (λ h34=>?_))));refine Il ?_;refine kZ ?_;refine rB ?_;refine Lj ?_;refine aT ?_;refine eE [0,1,2,3,4,5,6,7,8,9,10,11] ?_;refine mY ?_;refine kU ?_;refine Cv ?_;refine J7 ?_)
    all_goals
    refine aR Tryz.results109 (λ w hw=>?_)
    exact⟨(),rfl,trivial,hw.aV⟩
   ·try exact nv c20
    all_goals (refine Rt ?_;refine rB ?_;refine Lj ?_;refine aT ?_;refine eE [0,1,2,3,4,5,6,7,8,9,10,11] ?_;refine mY ?_;refine kU ?_;refine Cv ?_;refine J7 ?_)
    all_goals
    refine aR Tryz.results109 (λ w hw=>?_)
    exact⟨(),rfl,trivial,hw.aV⟩
theorem alloc_old{n:Nd}(i:Int)(ok:x.Ok)(h:x.st=false)(h1:x.m<x.made.length)(hl:x.made.length<=274877906944)(hs:SF w D (xH k bx bm x dn rs) A [] (xW x) w):Calls Tryz.prog 109 #[.pointer (some ⟨bx,0,none⟩),n.v,.int .i64 i] w λ e w'=>∃q:Unit,e=.returned (.int .i64 (x.made.getD x.m 0))/\True/\SF w D (xH k bx bm {x with m:=x.m+1} dn rs) [] [] (xW {x with m:=x.m+1}) w':=by
 refine enter Tryz.func109 Tryz.ntmps109 rfl rfl (cN hs) ?_
 simp only[dB]
 simp only[Nd.v]
 all_goals (refine J0 ?_;refine bM (λ x4=>?_);refine iI ?_;refine kZ ?_;refine aN ?_)
 all_goals
 refine bF (λ c10=>?_) (λ c10=>?_)
 ·try exact nv c10
  all_goals try (exfalso;omega)
  all_goals
   exact absurd (h.symm.trans c10) (by decide)
  all_goals refine dH ?_
  all_goals
   refine aR Tryz.results109 (λ w hw=>?_)
   exact⟨(),by rw[Nat.add_sub_cancel];rfl,trivial,hw.aV⟩
 ·try exact nv c10
  all_goals try (exfalso;omega)
  all_goals (refine iW ?_;refine aT ?_;refine eE [0,1,2,3,4,5,6,7,8,9] ?_;refine mY ?_;refine jD ?_;refine mD ?_;refine eO ?_)
  all_goals
   refine bF (λ c20=>?_) (λ c20=>?_)
   ·try exact nv c20
    all_goals try (exfalso;omega)
    all_goals (refine dL [(0,[]),(1,[]),(2,[]),(3,[]),(4,[]),(5,[]),(6,[]),(7,[]),(8,[]),(9,[]),(10,[]),(11,[4]),(12,[4]),(13,[]),(14,[]),(15,[]),(16,[])] ?_;refine aL ?_;refine mY ?_;refine bT ?_;refine aL ?_;((refine bA (i:=11) (hq:=(NO)) (h:=λ x32=>?_);try (refine aK (λ h32=>?_))));refine bB (h:=λ x33=>?_);((refine cR (h:=λ x34=>?_);try (refine aK (λ h34=>?_))));refine J4 ?_;refine kR (i:=16) (hq:=(by first|exact fQ λ _=>bN rf cQ wn rf bU rf rf fZ|exact(fQ λ _=>bN rf cQ wn rf bU rf wX fZ)|exact(fQ λ _=>bZ rf cQ rf rf dS rf fZ)|exact(aP.bC (cW rf rf bU dZ om) dV)|exact(aP.bC (cU rf rf bU dZ om) dV)|exact(aP.bC (o_storePv rf rf bU dZ om) dV)|exact(aP.bC (o_storeP rf rf dS dZ om) dV))) (h:=λ _=>?_);refine eO ?_;refine kZ ?_;refine aH (gO (m:=x.m) (n:=1) rf rf (by omega)) rfl ?_;refine Db ?_;refine iS (by first|exact fQ λ _=>bN rf cQ wn rf bU rf rf fZ|exact(fQ λ _=>bN rf cQ wn rf bU rf wX fZ)|exact(fQ λ _=>bZ rf cQ rf rf dS rf fZ)|exact(aP.bC (cW rf rf bU dZ om) dV)|exact(aP.bC (cU rf rf bU dZ om) dV)|exact(aP.bC (o_storePv rf rf bU dZ om) dV)|exact(aP.bC (o_storeP rf rf dS dZ om) dV)) (λ _=>?_);refine Iz ?_;refine eE [0,1,2,3,4,5,6,7,8,9,10,11] ?_;refine mY ?_;refine cI (i:=8) (hq:=(fP (m:=x.m+1) (n:=1) rf rf (by omega) (by omega))) (h:=?_);refine bP (i:=9) (hq:=(bW (m:=x.made.length) (k:=x.m+1-1) (lst:=x.made) rf rf fG bU (.own (.tail .head)) (by omega) (by omega))) (h:=?_);refine bP (i:=10) (hq:=(cJ (q:=x.m+1-1) (lst:=x.made) rf bU (.own (.tail .head)) (by omega))) (h:=?_);refine J7 ?_)
    all_goals
    refine aR Tryz.results109 (λ w hw=>?_)
    exact⟨(),by rw[Nat.add_sub_cancel];rfl,trivial,hw.aV⟩
   ·try exact nv c20
    all_goals try (exfalso;omega)
    all_goals (refine Rt ?_;refine aH (gO (m:=x.m) (n:=1) rf rf (by omega)) rfl ?_;refine Db ?_;refine iS (by first|exact fQ λ _=>bN rf cQ wn rf bU rf rf fZ|exact(fQ λ _=>bN rf cQ wn rf bU rf wX fZ)|exact(fQ λ _=>bZ rf cQ rf rf dS rf fZ)|exact(aP.bC (cW rf rf bU dZ om) dV)|exact(aP.bC (cU rf rf bU dZ om) dV)|exact(aP.bC (o_storePv rf rf bU dZ om) dV)|exact(aP.bC (o_storeP rf rf dS dZ om) dV)) (λ _=>?_);refine Iz ?_;refine eE [0,1,2,3,4,5,6,7,8,9,10,11] ?_;refine mY ?_;refine cI (i:=8) (hq:=(fP (m:=x.m+1) (n:=1) rf rf (by omega) (by omega))) (h:=?_);refine bP (i:=9) (hq:=(bW (m:=x.made.length) (k:=x.m+1-1) (lst:=x.made) rf rf fG bU (.own (.tail .head)) (by omega) (by omega))) (h:=?_);refine bP (i:=10) (hq:=(cJ (q:=x.m+1-1) (lst:=x.made) rf bU (.own (.tail .head)) (by omega))) (h:=?_);refine J7 ?_)
    all_goals
    refine aR Tryz.results109 (λ w hw=>?_)
    exact⟨(),by rw[Nat.add_sub_cancel];rfl,trivial,hw.aV⟩
theorem Vu{n:Nd}{xs:List Int}{ys:List Pr}(i:Int)(ok:x.Ok)(h:x.st=false)(h1:x.m=x.made.length)(hl:x.made.length<=137438953472)(hLl:x.L.length<=274877906900)(hcl:x.cs.length<=274877906900)(e1:n.brN=xs.length)(e2:n.prN=ys.length)(hx:xs.length<=274877906944)(hy:ys.length<=274877906944)(hs:SF w D (xH k bx bm x dn rs) [(n.brA,aJ xs),(n.prA,dI ys)] [] (xW x) w):Calls Tryz.prog 109 #[.pointer (some ⟨bx,0,none⟩),n.v,.int .i64 i] w λ e w'=>∃q:AX×(Option Addr×Nat),e=.returned (.int .i64 ((x.L.length+1:Nat):Int))/\True /\
   SF w D (xH k bx bm {x with L:=x.L++[gK n xs ys x.cs.length q.1],cs:=eQ n.kind x.cs i,pn:=q.1.pn,cn:=q.1.cn,pc:=q.1.pc,cc:=q.1.cc,made:=x.made++[((x.L.length+1:Nat):Int)],pm:=q.2.1,km:=q.2.2,m:=x.m+1} dn rs) [] (gK n xs ys x.cs.length q.1).fr (xW {x with L:=x.L++[gK n xs ys x.cs.length q.1],cs:=eQ n.kind x.cs i,pn:=q.1.pn,cn:=q.1.cn,pc:=q.1.pc,cc:=q.1.cc,made:=x.made++[((x.L.length+1:Nat):Int)],pm:=q.2.1,km:=q.2.2,m:=x.m+1}) w':=by
 refine enter Tryz.func109 Tryz.ntmps109 rfl rfl (cN hs) ?_
 simp only[dB]
 simp only[Nd.v]
 all_goals (refine J0 ?_;refine bM (λ x4=>?_);refine iI ?_;refine kZ ?_;refine aN ?_)
 all_goals
 refine bF (λ c10=>?_) (λ c10=>?_)
 ·try exact nv c10
  all_goals try (exfalso;omega)
  all_goals
   exact absurd (h.symm.trans c10) (by decide)
  all_goals refine dH ?_
  all_goals
   refine aR Tryz.results109 (λ w hw=>?_)
   rw[show x.made.length+1=(x.made++[((x.L.length+1:Nat):Int)]).length by simp] at hw
   exact⟨(x32,x34),by rw[show x.m+1-1=x.made.length by omega,hX];rfl,trivial,hw.ret (List.Sublist.cons _ (List.Sublist.refl _)) (aW.jM λ f hf=>List.mem_cons_of_mem _ (List.mem_append_left _ hf)) (List.Sublist.refl _)⟩
 ·try exact nv c10
  all_goals try (exfalso;omega)
  all_goals (refine iW ?_;refine aT ?_;refine eE [0,1,2,3,4,5,6,7,8,9] ?_;refine mY ?_;refine jD ?_;refine mD ?_;refine eO ?_)
  all_goals
   refine bF (λ c20=>?_) (λ c20=>?_)
   ·try exact nv c20
    all_goals try (exfalso;omega)
    all_goals (refine dL [(0,[]),(1,[]),(2,[]),(3,[]),(4,[]),(5,[]),(6,[]),(7,[]),(8,[]),(9,[]),(10,[]),(11,[4]),(12,[4]),(13,[]),(14,[]),(15,[]),(16,[])] ?_;refine aL ?_;refine mY ?_;refine bT ?_;refine aL ?_;((refine bA (i:=11) (hq:=(cM (A0:=[(n.brA,aJ xs),(n.prA,dI ys)]) (hc:=λ w hs=>qT (n:=n) (L:=x.L) (cs:=x.cs) i hs e1 e2 hx hy (by omega) (by omega)))) (h:=λ x32=>?_);try (refine aK (λ h32=>?_))));refine bB (h:=λ x33=>?_);((refine bA (i:=13) (hq:=(aP.eL (rU (l:=x.made) (m:=x.made.length) rf rf (.tail .head) rfl fin Wa fG (by omega)) dV)) (h:=λ x34=>?_);try (refine aK (λ h34=>?_))));refine J4 ?_;refine kR (i:=16) (hq:=(by first|exact fQ λ _=>bN rf cQ wn rf bU rf rf fZ|exact(fQ λ _=>bN rf cQ wn rf bU rf wX fZ)|exact(fQ λ _=>bZ rf cQ rf rf dS rf fZ)|exact(aP.bC (cW rf rf bU dZ om) dV)|exact(aP.bC (cU rf rf bU dZ om) dV)|exact(aP.bC (o_storePv rf rf bU dZ om) dV)|exact(aP.bC (o_storeP rf rf dS dZ om) dV))) (h:=λ _=>?_);refine eO ?_;refine kZ ?_;refine aH (gO (m:=x.m) (n:=1) rf rf (by omega)) rfl ?_;refine Db ?_;refine iS (by first|exact fQ λ _=>bN rf cQ wn rf bU rf rf fZ|exact(fQ λ _=>bN rf cQ wn rf bU rf wX fZ)|exact(fQ λ _=>bZ rf cQ rf rf dS rf fZ)|exact(aP.bC (cW rf rf bU dZ om) dV)|exact(aP.bC (cU rf rf bU dZ om) dV)|exact(aP.bC (o_storePv rf rf bU dZ om) dV)|exact(aP.bC (o_storeP rf rf dS dZ om) dV)) (λ _=>?_);refine Iz ?_;refine eE [0,1,2,3,4,5,6,7,8,9,10,11] ?_;refine mY ?_;refine cI (i:=8) (hq:=(fP (m:=x.m+1) (n:=1) rf rf (by omega) (by omega))) (h:=?_);refine bP (i:=9) (hq:=(bW (m:=x.made.length+1) (k:=x.m+1-1) rf rf fG bU (.own (.tail .head)) (by omega) (by rw[List.length_append,List.length_cons,List.length_nil];omega))) (h:=?_);refine bP (i:=10) (hq:=(cJ (q:=x.m+1-1) rf bU (.own (.tail .head)) (by rw[List.length_append,List.length_cons,List.length_nil];omega))) (h:=?_);refine J7 ?_)
    all_goals
    refine aR Tryz.results109 (λ w hw=>?_)
    rw[show x.made.length+1=(x.made++[((x.L.length+1:Nat):Int)]).length by simp] at hw
    exact⟨(x32,x34),by rw[show x.m+1-1=x.made.length by omega,hX];rfl,trivial,hw.ret (List.Sublist.cons _ (List.Sublist.refl _)) (aW.jM λ f hf=>List.mem_cons_of_mem _ (List.mem_append_left _ hf)) (List.Sublist.refl _)⟩
   ·try exact nv c20
    all_goals try (exfalso;omega)
    all_goals (refine Rt ?_;refine aH (gO (m:=x.m) (n:=1) rf rf (by omega)) rfl ?_;refine Db ?_;refine iS (by first|exact fQ λ _=>bN rf cQ wn rf bU rf rf fZ|exact(fQ λ _=>bN rf cQ wn rf bU rf wX fZ)|exact(fQ λ _=>bZ rf cQ rf rf dS rf fZ)|exact(aP.bC (cW rf rf bU dZ om) dV)|exact(aP.bC (cU rf rf bU dZ om) dV)|exact(aP.bC (o_storePv rf rf bU dZ om) dV)|exact(aP.bC (o_storeP rf rf dS dZ om) dV)) (λ _=>?_);refine Iz ?_;refine eE [0,1,2,3,4,5,6,7,8,9,10,11] ?_;refine mY ?_;refine cI (i:=8) (hq:=(fP (m:=x.m+1) (n:=1) rf rf (by omega) (by omega))) (h:=?_);refine bP (i:=9) (hq:=(bW (m:=x.made.length+1) (k:=x.m+1-1) rf rf fG bU (.own (.tail .head)) (by omega) (by rw[List.length_append,List.length_cons,List.length_nil];omega))) (h:=?_);refine bP (i:=10) (hq:=(cJ (q:=x.m+1-1) rf bU (.own (.tail .head)) (by rw[List.length_append,List.length_cons,List.length_nil];omega))) (h:=?_);refine J7 ?_)
    all_goals
    refine aR Tryz.results109 (λ w hw=>?_)
    rw[show x.made.length+1=(x.made++[((x.L.length+1:Nat):Int)]).length by simp] at hw
    exact⟨(x32,x34),by rw[show x.m+1-1=x.made.length by omega,hX];rfl,trivial,hw.ret (List.Sublist.cons _ (List.Sublist.refl _)) (aW.jM λ f hf=>List.mem_cons_of_mem _ (List.mem_append_left _ hf)) (List.Sublist.refl _)⟩
end
end

/- Executions of the reference: cells, generations. -/
section
open Go Go.RowKit Go.Ct
theorem M2:eH Tryz.prog 31=some (.int .i64 0):=by kernel_rfl
theorem D4:eD Tryz.prog 109 31 [.int .i64 0]:=mE (by kernel_rfl) M2 rfl
section
variable{k:Cl}{bx bm:Nat}{x:XS}{dn:Bool}{rs:Rs}{D:List Nat}{A:Fr}{w:World}
theorem fo(i:Int)(h:x.st=true)(hs:SF w D (xH k bx bm x dn rs) A [] (xW x) w):Calls Tryz.prog 121 #[.pointer (some ⟨bx,0,none⟩),.int .i64 i] w λ e w'=>∃q:Unit,e=.returned (.int .i64 0)/\True/\SF w D (xH k bx bm x dn rs) [] [] (xW x) w':=by
 refine enter Tryz.func121 Tryz.ntmps121 rfl rfl (cN hs) ?_
 simp only[dB]
 all_goals (refine Be ?_;refine kZ ?_;refine aN ?_)
 all_goals
 refine bF (λ c8=>?_) (λ c8=>?_)
 ·try exact nv c8
  all_goals refine dH ?_
  all_goals
   refine aR Tryz.results121 (λ w hw=>?_)
   exact⟨(),rfl,trivial,hw.aV⟩
 ·try exact nv c8
  all_goals
   exact absurd (h.symm.trans c8) (by decide)
  all_goals (refine iW ?_;refine aT ?_;refine eE [0,1,2,3,4,5,6,7,8,9] ?_;refine mY ?_;refine jD ?_;refine mD ?_;refine eO ?_)
  all_goals
   refine bF (λ c18=>?_) (λ c18=>?_)
   ·try exact nv c18
    all_goals (refine dL [(0,[]),(1,[]),(2,[]),(3,[]),(4,[]),(5,[]),(6,[]),(7,[]),(8,[]),(9,[]),(10,[4]),(11,[4]),(12,[]),(13,[]),(14,[]),(15,[])] ?_;refine aL ?_;refine mY ?_;refine aL ?_;((refine bA (i:=10) (hq:=(NO)) (h:=λ x29=>?_);try (refine aK (λ h29=>?_))));refine bB (h:=λ x30=>?_);((refine cR (h:=λ x31=>?_);try (refine aK (λ h31=>?_))));refine Il ?_;refine kZ ?_;refine rB ?_;refine Lj ?_;refine aT ?_;refine eE [0,1,2,3,4,5,6,7,8,9,10,11] ?_;refine mY ?_;refine kU ?_;refine Cv ?_;refine J7 ?_)
    all_goals
    refine aR Tryz.results121 (λ w hw=>?_)
    exact⟨(),rfl,trivial,hw.aV⟩
   ·try exact nv c18
    all_goals (refine Rt ?_;refine rB ?_;refine Lj ?_;refine aT ?_;refine eE [0,1,2,3,4,5,6,7,8,9,10,11] ?_;refine mY ?_;refine kU ?_;refine Cv ?_;refine J7 ?_)
    all_goals
    refine aR Tryz.results121 (λ w hw=>?_)
    exact⟨(),rfl,trivial,hw.aV⟩
theorem Dw(i:Int)(h:x.st=false)(h1:x.c<x.cel.length)(hl:x.cel.length<=274877906944)(hs:SF w D (xH k bx bm x dn rs) A [] (xW x) w):Calls Tryz.prog 121 #[.pointer (some ⟨bx,0,none⟩),.int .i64 i] w λ e w'=>∃q:Unit,e=.returned (.int .i64 (x.cel.getD x.c 0))/\True/\SF w D (xH k bx bm {x with c:=x.c+1} dn rs) [] [] (xW {x with c:=x.c+1}) w':=by
 refine enter Tryz.func121 Tryz.ntmps121 rfl rfl (cN hs) ?_
 simp only[dB]
 all_goals (refine Be ?_;refine kZ ?_;refine aN ?_)
 all_goals
 refine bF (λ c8=>?_) (λ c8=>?_)
 ·try exact nv c8
  all_goals try (exfalso;omega)
  all_goals
   exact absurd (h.symm.trans c8) (by decide)
  all_goals refine dH ?_
  all_goals
   refine aR Tryz.results121 (λ w hw=>?_)
   exact⟨(),by rw[Nat.add_sub_cancel];rfl,trivial,hw.aV⟩
 ·try exact nv c8
  all_goals try (exfalso;omega)
  all_goals (refine iW ?_;refine aT ?_;refine eE [0,1,2,3,4,5,6,7,8,9] ?_;refine mY ?_;refine jD ?_;refine mD ?_;refine eO ?_)
  all_goals
   refine bF (λ c18=>?_) (λ c18=>?_)
   ·try exact nv c18
    all_goals try (exfalso;omega)
    all_goals (refine dL [(0,[]),(1,[]),(2,[]),(3,[]),(4,[]),(5,[]),(6,[]),(7,[]),(8,[]),(9,[]),(10,[4]),(11,[4]),(12,[]),(13,[]),(14,[]),(15,[])] ?_;refine aL ?_;refine mY ?_;refine aL ?_;((refine bA (i:=10) (hq:=(NO)) (h:=λ x29=>?_);try (refine aK (λ h29=>?_))));refine bB (h:=λ x30=>?_);((refine cR (h:=λ x31=>?_);try (refine aK (λ h31=>?_))));refine J4 ?_;refine kR (i:=15) (hq:=(by first|exact fQ λ _=>bN rf cQ wn rf bU rf rf fZ|exact(fQ λ _=>bN rf cQ wn rf bU rf wX fZ)|exact(fQ λ _=>bZ rf cQ rf rf dS rf fZ)|exact(aP.bC (cW rf rf bU dZ om) dV)|exact(aP.bC (cU rf rf bU dZ om) dV)|exact(aP.bC (o_storePv rf rf bU dZ om) dV)|exact(aP.bC (o_storeP rf rf dS dZ om) dV))) (h:=λ _=>?_);refine eO ?_;refine kZ ?_;refine aH (gO (m:=x.c) (n:=1) rf rf (by omega)) rfl ?_;refine Db ?_;refine iS (by first|exact fQ λ _=>bN rf cQ wn rf bU rf rf fZ|exact(fQ λ _=>bN rf cQ wn rf bU rf wX fZ)|exact(fQ λ _=>bZ rf cQ rf rf dS rf fZ)|exact(aP.bC (cW rf rf bU dZ om) dV)|exact(aP.bC (cU rf rf bU dZ om) dV)|exact(aP.bC (o_storePv rf rf bU dZ om) dV)|exact(aP.bC (o_storeP rf rf dS dZ om) dV)) (λ _=>?_);refine Iz ?_;refine eE [0,1,2,3,4,5,6,7,8,9,10,11] ?_;refine mY ?_;refine cI (i:=8) (hq:=(fP (m:=x.c+1) (n:=1) rf rf (by omega) (by omega))) (h:=?_);refine bP (i:=9) (hq:=(bW (m:=x.cel.length) (k:=x.c+1-1) (lst:=x.cel) rf rf fG bU (.own (.tail (.tail .head))) (by omega) (by omega))) (h:=?_);refine bP (i:=10) (hq:=(cJ (q:=x.c+1-1) (lst:=x.cel) rf bU (.own (.tail (.tail .head))) (by omega))) (h:=?_);refine J7 ?_)
    all_goals
    refine aR Tryz.results121 (λ w hw=>?_)
    exact⟨(),by rw[Nat.add_sub_cancel];rfl,trivial,hw.aV⟩
   ·try exact nv c18
    all_goals try (exfalso;omega)
    all_goals (refine Rt ?_;refine aH (gO (m:=x.c) (n:=1) rf rf (by omega)) rfl ?_;refine Db ?_;refine iS (by first|exact fQ λ _=>bN rf cQ wn rf bU rf rf fZ|exact(fQ λ _=>bN rf cQ wn rf bU rf wX fZ)|exact(fQ λ _=>bZ rf cQ rf rf dS rf fZ)|exact(aP.bC (cW rf rf bU dZ om) dV)|exact(aP.bC (cU rf rf bU dZ om) dV)|exact(aP.bC (o_storePv rf rf bU dZ om) dV)|exact(aP.bC (o_storeP rf rf dS dZ om) dV)) (λ _=>?_);refine Iz ?_;refine eE [0,1,2,3,4,5,6,7,8,9,10,11] ?_;refine mY ?_;refine cI (i:=8) (hq:=(fP (m:=x.c+1) (n:=1) rf rf (by omega) (by omega))) (h:=?_);refine bP (i:=9) (hq:=(bW (m:=x.cel.length) (k:=x.c+1-1) (lst:=x.cel) rf rf fG bU (.own (.tail (.tail .head))) (by omega) (by omega))) (h:=?_);refine bP (i:=10) (hq:=(cJ (q:=x.c+1-1) (lst:=x.cel) rf bU (.own (.tail (.tail .head))) (by omega))) (h:=?_);refine J7 ?_)
    all_goals
    refine aR Tryz.results121 (λ w hw=>?_)
    exact⟨(),by rw[Nat.add_sub_cancel];rfl,trivial,hw.aV⟩
theorem Yx(i:Int)(h:x.st=false)(h1:x.c=x.cel.length)(hl:x.cel.length<=137438953472)(hcl:x.cs.length<=274877906900)(hs:SF w D (xH k bx bm x dn rs) A [] (xW x) w):Calls Tryz.prog 121 #[.pointer (some ⟨bx,0,none⟩),.int .i64 i] w λ e w'=>∃q:(Option Addr×Nat)×(Option Addr×Nat),e=.returned (.int .i64 ((x.cs.length+1:Nat):Int))/\True /\
   SF w D (xH k bx bm {x with cs:=x.cs++[i],pc:=q.1.1,cc:=q.1.2,cel:=x.cel++[((x.cs.length+1:Nat):Int)],pl:=q.2.1,kl:=q.2.2,c:=x.c+1} dn rs) [] [] (xW {x with cs:=x.cs++[i],pc:=q.1.1,cc:=q.1.2,cel:=x.cel++[((x.cs.length+1:Nat):Int)],pl:=q.2.1,kl:=q.2.2,c:=x.c+1}) w':=by
 refine enter Tryz.func121 Tryz.ntmps121 rfl rfl (cN hs) ?_
 simp only[dB]
 all_goals (refine Be ?_;refine kZ ?_;refine aN ?_)
 all_goals
 refine bF (λ c8=>?_) (λ c8=>?_)
 ·try exact nv c8
  all_goals try (exfalso;omega)
  all_goals
   exact absurd (h.symm.trans c8) (by decide)
  all_goals refine dH ?_
  all_goals
   refine aR Tryz.results121 (λ w hw=>?_)
   rw[show x.cel.length+1=(x.cel++[((x.cs.length+1:Nat):Int)]).length by simp] at hw
   exact⟨(x29,x31),by rw[show x.c+1-1=x.cel.length by omega,hX];rfl,trivial,hw.aV⟩
 ·try exact nv c8
  all_goals try (exfalso;omega)
  all_goals (refine iW ?_;refine aT ?_;refine eE [0,1,2,3,4,5,6,7,8,9] ?_;refine mY ?_;refine jD ?_;refine mD ?_;refine eO ?_)
  all_goals
   refine bF (λ c18=>?_) (λ c18=>?_)
   ·try exact nv c18
    all_goals try (exfalso;omega)
    all_goals (refine dL [(0,[]),(1,[]),(2,[]),(3,[]),(4,[]),(5,[]),(6,[]),(7,[]),(8,[]),(9,[]),(10,[4]),(11,[4]),(12,[]),(13,[]),(14,[]),(15,[])] ?_;refine aL ?_;refine mY ?_;refine aL ?_;((refine bA (i:=10) (hq:=(cM (hc:=λ w hs=>iH (L:=x.L) (cs:=x.cs) i hs (by omega)))) (h:=λ x29=>?_);try (refine aK (λ h29=>?_))));refine bA (i:=11) (hq:=((by exact Cx (λ _=>cS (cs:=aJ [((x.cs.length+1:Nat):Int)]) D4 Ei rfl rfl rfl rfl rfl)))) (h:=λ x30=>?_);((refine bA (i:=12) (hq:=(aP.eL (rU (l:=x.cel) (m:=x.cel.length) rf rf (.tail (.tail .head)) rfl fin (by exact D4) fG (by omega)) dV)) (h:=λ x31=>?_);try (refine aK (λ h31=>?_))));refine J4 ?_;refine kR (i:=15) (hq:=(by first|exact fQ λ _=>bN rf cQ wn rf bU rf rf fZ|exact(fQ λ _=>bN rf cQ wn rf bU rf wX fZ)|exact(fQ λ _=>bZ rf cQ rf rf dS rf fZ)|exact(aP.bC (cW rf rf bU dZ om) dV)|exact(aP.bC (cU rf rf bU dZ om) dV)|exact(aP.bC (o_storePv rf rf bU dZ om) dV)|exact(aP.bC (o_storeP rf rf dS dZ om) dV))) (h:=λ _=>?_);refine eO ?_;refine kZ ?_;refine aH (gO (m:=x.c) (n:=1) rf rf (by omega)) rfl ?_;refine Db ?_;refine iS (by first|exact fQ λ _=>bN rf cQ wn rf bU rf rf fZ|exact(fQ λ _=>bN rf cQ wn rf bU rf wX fZ)|exact(fQ λ _=>bZ rf cQ rf rf dS rf fZ)|exact(aP.bC (cW rf rf bU dZ om) dV)|exact(aP.bC (cU rf rf bU dZ om) dV)|exact(aP.bC (o_storePv rf rf bU dZ om) dV)|exact(aP.bC (o_storeP rf rf dS dZ om) dV)) (λ _=>?_);refine Iz ?_;refine eE [0,1,2,3,4,5,6,7,8,9,10,11] ?_;refine mY ?_;refine cI (i:=8) (hq:=(fP (m:=x.c+1) (n:=1) rf rf (by omega) (by omega))) (h:=?_);refine bP (i:=9) (hq:=(bW (m:=x.cel.length+1) (k:=x.c+1-1) rf rf fG bU (.own (.tail (.tail .head))) (by omega) (by rw[List.length_append,List.length_cons,List.length_nil];omega))) (h:=?_);refine bP (i:=10) (hq:=(cJ (q:=x.c+1-1) rf bU (.own (.tail (.tail .head))) (by rw[List.length_append,List.length_cons,List.length_nil];omega))) (h:=?_);refine J7 ?_)
    all_goals
    refine aR Tryz.results121 (λ w hw=>?_)
    rw[show x.cel.length+1=(x.cel++[((x.cs.length+1:Nat):Int)]).length by simp] at hw
    exact⟨(x29,x31),by rw[show x.c+1-1=x.cel.length by omega,hX];rfl,trivial,hw.aV⟩
   ·try exact nv c18
    all_goals try (exfalso;omega)
    all_goals (refine Rt ?_;refine aH (gO (m:=x.c) (n:=1) rf rf (by omega)) rfl ?_;refine Db ?_;refine iS (by first|exact fQ λ _=>bN rf cQ wn rf bU rf rf fZ|exact(fQ λ _=>bN rf cQ wn rf bU rf wX fZ)|exact(fQ λ _=>bZ rf cQ rf rf dS rf fZ)|exact(aP.bC (cW rf rf bU dZ om) dV)|exact(aP.bC (cU rf rf bU dZ om) dV)|exact(aP.bC (o_storePv rf rf bU dZ om) dV)|exact(aP.bC (o_storeP rf rf dS dZ om) dV)) (λ _=>?_);refine Iz ?_;refine eE [0,1,2,3,4,5,6,7,8,9,10,11] ?_;refine mY ?_;refine cI (i:=8) (hq:=(fP (m:=x.c+1) (n:=1) rf rf (by omega) (by omega))) (h:=?_);refine bP (i:=9) (hq:=(bW (m:=x.cel.length+1) (k:=x.c+1-1) rf rf fG bU (.own (.tail (.tail .head))) (by omega) (by rw[List.length_append,List.length_cons,List.length_nil];omega))) (h:=?_);refine bP (i:=10) (hq:=(cJ (q:=x.c+1-1) rf bU (.own (.tail (.tail .head))) (by rw[List.length_append,List.length_cons,List.length_nil];omega))) (h:=?_);refine J7 ?_)
    all_goals
    refine aR Tryz.results121 (λ w hw=>?_)
    rw[show x.cel.length+1=(x.cel++[((x.cs.length+1:Nat):Int)]).length by simp] at hw
    exact⟨(x29,x31),by rw[show x.c+1-1=x.cel.length by omega,hX];rfl,trivial,hw.aV⟩
theorem py(h:x.st=true)(hs:SF w D (xH k bx bm x dn rs) A [] (xW x) w):Calls Tryz.prog 123 #[.pointer (some ⟨bx,0,none⟩)] w λ e w'=>∃q:Unit,e=.returned (.int .i64 0)/\True/\SF w D (xH k bx bm x dn rs) [] [] (xW x) w':=by
 refine enter Tryz.func123 Tryz.ntmps123 rfl rfl (cN hs) ?_
 simp only[dB]
 all_goals (refine Be ?_;refine kZ ?_;refine aN ?_)
 all_goals
 refine bF (λ c6=>?_) (λ c6=>?_)
 ·try exact nv c6
  all_goals refine dH ?_
  all_goals
   refine aR Tryz.results123 (λ w hw=>?_)
   exact⟨(),rfl,trivial,hw.aV⟩
 ·try exact nv c6
  all_goals
   exact absurd (h.symm.trans c6) (by decide)
  all_goals (refine iW ?_;refine aT ?_;refine eE [0,1,2,3,4,5,6,7,8,9] ?_;refine mY ?_;refine jD ?_;refine mD ?_;refine eO ?_)
  all_goals
   refine bF (λ c16=>?_) (λ c16=>?_)
   ·try exact nv c16
    all_goals (refine dL [(0,[]),(1,[]),(2,[]),(3,[]),(4,[]),(5,[]),(6,[]),(7,[]),(8,[]),(9,[4]),(10,[4]),(11,[]),(12,[]),(13,[]),(14,[])] ?_;refine aL ?_;refine mY ?_;((refine bA (i:=9) (hq:=(NO)) (h:=λ x26=>?_);try (refine aK (λ h26=>?_))));refine bB (h:=λ x27=>?_);((refine cR (h:=λ x28=>?_);try (refine aK (λ h28=>?_))));refine Il ?_;refine kZ ?_;refine rB ?_;refine Lj ?_;refine aT ?_;refine eE [0,1,2,3,4,5,6,7,8,9,10,11] ?_;refine mY ?_;refine kU ?_;refine Cv ?_;refine J7 ?_)
    all_goals
    refine aR Tryz.results123 (λ w hw=>?_)
    exact⟨(),rfl,trivial,hw.aV⟩
   ·try exact nv c16
    all_goals (refine Rt ?_;refine rB ?_;refine Lj ?_;refine aT ?_;refine eE [0,1,2,3,4,5,6,7,8,9,10,11] ?_;refine mY ?_;refine kU ?_;refine Cv ?_;refine J7 ?_)
    all_goals
    refine aR Tryz.results123 (λ w hw=>?_)
    exact⟨(),rfl,trivial,hw.aV⟩
theorem It(h:x.st=false)(h1:x.g<x.gns.length)(hl:x.gns.length<=274877906944)(hs:SF w D (xH k bx bm x dn rs) A [] (xW x) w):Calls Tryz.prog 123 #[.pointer (some ⟨bx,0,none⟩)] w λ e w'=>∃q:Unit,e=.returned (.int .i64 (x.gns.getD x.g 0))/\True/\SF w D (xH k bx bm {x with g:=x.g+1} dn rs) [] [] (xW {x with g:=x.g+1}) w':=by
 refine enter Tryz.func123 Tryz.ntmps123 rfl rfl (cN hs) ?_
 simp only[dB]
 all_goals (refine Be ?_;refine kZ ?_;refine aN ?_)
 all_goals
 refine bF (λ c6=>?_) (λ c6=>?_)
 ·try exact nv c6
  all_goals try (exfalso;omega)
  all_goals
   exact absurd (h.symm.trans c6) (by decide)
  all_goals refine dH ?_
  all_goals
   refine aR Tryz.results123 (λ w hw=>?_)
   exact⟨(),by rw[Nat.add_sub_cancel];rfl,trivial,hw.aV⟩
 ·try exact nv c6
  all_goals try (exfalso;omega)
  all_goals (refine iW ?_;refine aT ?_;refine eE [0,1,2,3,4,5,6,7,8,9] ?_;refine mY ?_;refine jD ?_;refine mD ?_;refine eO ?_)
  all_goals
   refine bF (λ c16=>?_) (λ c16=>?_)
   ·try exact nv c16
    all_goals try (exfalso;omega)
    all_goals (refine dL [(0,[]),(1,[]),(2,[]),(3,[]),(4,[]),(5,[]),(6,[]),(7,[]),(8,[]),(9,[4]),(10,[4]),(11,[]),(12,[]),(13,[]),(14,[])] ?_;refine aL ?_;refine mY ?_;((refine bA (i:=9) (hq:=(NO)) (h:=λ x26=>?_);try (refine aK (λ h26=>?_))));refine bB (h:=λ x27=>?_);((refine cR (h:=λ x28=>?_);try (refine aK (λ h28=>?_))));refine J4 ?_;refine kR (i:=14) (hq:=(by first|exact fQ λ _=>bN rf cQ wn rf bU rf rf fZ|exact(fQ λ _=>bN rf cQ wn rf bU rf wX fZ)|exact(fQ λ _=>bZ rf cQ rf rf dS rf fZ)|exact(aP.bC (cW rf rf bU dZ om) dV)|exact(aP.bC (cU rf rf bU dZ om) dV)|exact(aP.bC (o_storePv rf rf bU dZ om) dV)|exact(aP.bC (o_storeP rf rf dS dZ om) dV))) (h:=λ _=>?_);refine eO ?_;refine kZ ?_;refine aH (gO (m:=x.g) (n:=1) rf rf (by omega)) rfl ?_;refine Db ?_;refine iS (by first|exact fQ λ _=>bN rf cQ wn rf bU rf rf fZ|exact(fQ λ _=>bN rf cQ wn rf bU rf wX fZ)|exact(fQ λ _=>bZ rf cQ rf rf dS rf fZ)|exact(aP.bC (cW rf rf bU dZ om) dV)|exact(aP.bC (cU rf rf bU dZ om) dV)|exact(aP.bC (o_storePv rf rf bU dZ om) dV)|exact(aP.bC (o_storeP rf rf dS dZ om) dV)) (λ _=>?_);refine Iz ?_;refine eE [0,1,2,3,4,5,6,7,8,9,10,11] ?_;refine mY ?_;refine cI (i:=8) (hq:=(fP (m:=x.g+1) (n:=1) rf rf (by omega) (by omega))) (h:=?_);refine bP (i:=9) (hq:=(bW (m:=x.gns.length) (k:=x.g+1-1) (lst:=x.gns) rf rf fG bU (.own (.tail (.tail (.tail .head)))) (by omega) (by omega))) (h:=?_);refine bP (i:=10) (hq:=(cJ (q:=x.g+1-1) (lst:=x.gns) rf bU (.own (.tail (.tail (.tail .head)))) (by omega))) (h:=?_);refine J7 ?_)
    all_goals
    refine aR Tryz.results123 (λ w hw=>?_)
    exact⟨(),by rw[Nat.add_sub_cancel];rfl,trivial,hw.aV⟩
   ·try exact nv c16
    all_goals try (exfalso;omega)
    all_goals (refine Rt ?_;refine aH (gO (m:=x.g) (n:=1) rf rf (by omega)) rfl ?_;refine Db ?_;refine iS (by first|exact fQ λ _=>bN rf cQ wn rf bU rf rf fZ|exact(fQ λ _=>bN rf cQ wn rf bU rf wX fZ)|exact(fQ λ _=>bZ rf cQ rf rf dS rf fZ)|exact(aP.bC (cW rf rf bU dZ om) dV)|exact(aP.bC (cU rf rf bU dZ om) dV)|exact(aP.bC (o_storePv rf rf bU dZ om) dV)|exact(aP.bC (o_storeP rf rf dS dZ om) dV)) (λ _=>?_);refine Iz ?_;refine eE [0,1,2,3,4,5,6,7,8,9,10,11] ?_;refine mY ?_;refine cI (i:=8) (hq:=(fP (m:=x.g+1) (n:=1) rf rf (by omega) (by omega))) (h:=?_);refine bP (i:=9) (hq:=(bW (m:=x.gns.length) (k:=x.g+1-1) (lst:=x.gns) rf rf fG bU (.own (.tail (.tail (.tail .head)))) (by omega) (by omega))) (h:=?_);refine bP (i:=10) (hq:=(cJ (q:=x.g+1-1) (lst:=x.gns) rf bU (.own (.tail (.tail (.tail .head)))) (by omega))) (h:=?_);refine J7 ?_)
    all_goals
    refine aR Tryz.results123 (λ w hw=>?_)
    exact⟨(),by rw[Nat.add_sub_cancel];rfl,trivial,hw.aV⟩
theorem jn(h:x.st=false)(h1:x.g=x.gns.length)(hl:x.gns.length<=137438953472)(hgn : -1<=x.gen/\x.gen<=137438953600)(hs:SF w D (xH k bx bm x dn rs) A [] (xW x) w):Calls Tryz.prog 123 #[.pointer (some ⟨bx,0,none⟩)] w λ e w'=>∃q:Option Addr×Nat,e=.returned (.int .i64 (x.gen+1))/\True /\
   SF w D (xH k bx bm {x with gen:=x.gen+1,gns:=x.gns++[x.gen+1],pe:=q.1,ke:=q.2,g:=x.g+1} dn rs) [] [] (xW {x with gen:=x.gen+1,gns:=x.gns++[x.gen+1],pe:=q.1,ke:=q.2,g:=x.g+1}) w':=by
 have hup:up x.gen=x.gen+1:=wrap_i64 (by omega) (by omega)
 refine enter Tryz.func123 Tryz.ntmps123 rfl rfl (cN hs) ?_
 simp only[dB]
 all_goals (refine Be ?_;refine kZ ?_;refine aN ?_)
 all_goals
 refine bF (λ c6=>?_) (λ c6=>?_)
 ·try exact nv c6
  all_goals try (exfalso;omega)
  all_goals
   exact absurd (h.symm.trans c6) (by decide)
  all_goals refine dH ?_
  all_goals
   refine aR Tryz.results123 (λ w hw=>?_)
   rw[hup,show x.gns.length+1=(x.gns++[x.gen+1]).length by simp] at hw
   exact⟨x28,by rw[show x.g+1-1=x.gns.length by omega,hX,hup];rfl,trivial,hw.aV⟩
 ·try exact nv c6
  all_goals try (exfalso;omega)
  all_goals (refine iW ?_;refine aT ?_;refine eE [0,1,2,3,4,5,6,7,8,9] ?_;refine mY ?_;refine jD ?_;refine mD ?_;refine eO ?_)
  all_goals
   refine bF (λ c16=>?_) (λ c16=>?_)
   ·try exact nv c16
    all_goals try (exfalso;omega)
    all_goals (refine dL [(0,[]),(1,[]),(2,[]),(3,[]),(4,[]),(5,[]),(6,[]),(7,[]),(8,[]),(9,[4]),(10,[4]),(11,[]),(12,[]),(13,[]),(14,[])] ?_;refine aL ?_;refine mY ?_;((refine bA (i:=9) (hq:=(cM (hc:=λ w hs=>Hu (L:=x.L) (cs:=x.cs) (gen:=x.gen) hs))) (h:=λ x26=>?_);try (refine aK (λ h26=>?_))));refine bB (h:=λ x27=>?_);((refine bA (i:=11) (hq:=(aP.eL (rU (l:=x.gns) (m:=x.gns.length) rf rf (.tail (.tail (.tail .head))) rfl fin (by exact E6) fG (by omega)) dV)) (h:=λ x28=>?_);try (refine aK (λ h28=>?_))));refine J4 ?_;refine kR (i:=14) (hq:=(by first|exact fQ λ _=>bN rf cQ wn rf bU rf rf fZ|exact(fQ λ _=>bN rf cQ wn rf bU rf wX fZ)|exact(fQ λ _=>bZ rf cQ rf rf dS rf fZ)|exact(aP.bC (cW rf rf bU dZ om) dV)|exact(aP.bC (cU rf rf bU dZ om) dV)|exact(aP.bC (o_storePv rf rf bU dZ om) dV)|exact(aP.bC (o_storeP rf rf dS dZ om) dV))) (h:=λ _=>?_);refine eO ?_;refine kZ ?_;refine aH (gO (m:=x.g) (n:=1) rf rf (by omega)) rfl ?_;refine Db ?_;refine iS (by first|exact fQ λ _=>bN rf cQ wn rf bU rf rf fZ|exact(fQ λ _=>bN rf cQ wn rf bU rf wX fZ)|exact(fQ λ _=>bZ rf cQ rf rf dS rf fZ)|exact(aP.bC (cW rf rf bU dZ om) dV)|exact(aP.bC (cU rf rf bU dZ om) dV)|exact(aP.bC (o_storePv rf rf bU dZ om) dV)|exact(aP.bC (o_storeP rf rf dS dZ om) dV)) (λ _=>?_);refine Iz ?_;refine eE [0,1,2,3,4,5,6,7,8,9,10,11] ?_;refine mY ?_;refine cI (i:=8) (hq:=(fP (m:=x.g+1) (n:=1) rf rf (by omega) (by omega))) (h:=?_);refine bP (i:=9) (hq:=(bW (m:=x.gns.length+1) (k:=x.g+1-1) rf rf fG bU (.own (.tail (.tail (.tail .head)))) (by omega) (by rw[List.length_append,List.length_cons,List.length_nil];omega))) (h:=?_);refine bP (i:=10) (hq:=(cJ (q:=x.g+1-1) rf bU (.own (.tail (.tail (.tail .head)))) (by rw[List.length_append,List.length_cons,List.length_nil];omega))) (h:=?_);refine J7 ?_)
    all_goals
    refine aR Tryz.results123 (λ w hw=>?_)
    rw[hup,show x.gns.length+1=(x.gns++[x.gen+1]).length by simp] at hw
    exact⟨x28,by rw[show x.g+1-1=x.gns.length by omega,hX,hup];rfl,trivial,hw.aV⟩
   ·try exact nv c16
    all_goals try (exfalso;omega)
    all_goals (refine Rt ?_;refine aH (gO (m:=x.g) (n:=1) rf rf (by omega)) rfl ?_;refine Db ?_;refine iS (by first|exact fQ λ _=>bN rf cQ wn rf bU rf rf fZ|exact(fQ λ _=>bN rf cQ wn rf bU rf wX fZ)|exact(fQ λ _=>bZ rf cQ rf rf dS rf fZ)|exact(aP.bC (cW rf rf bU dZ om) dV)|exact(aP.bC (cU rf rf bU dZ om) dV)|exact(aP.bC (o_storePv rf rf bU dZ om) dV)|exact(aP.bC (o_storeP rf rf dS dZ om) dV)) (λ _=>?_);refine Iz ?_;refine eE [0,1,2,3,4,5,6,7,8,9,10,11] ?_;refine mY ?_;refine cI (i:=8) (hq:=(fP (m:=x.g+1) (n:=1) rf rf (by omega) (by omega))) (h:=?_);refine bP (i:=9) (hq:=(bW (m:=x.gns.length+1) (k:=x.g+1-1) rf rf fG bU (.own (.tail (.tail (.tail .head)))) (by omega) (by rw[List.length_append,List.length_cons,List.length_nil];omega))) (h:=?_);refine bP (i:=10) (hq:=(cJ (q:=x.g+1-1) rf bU (.own (.tail (.tail (.tail .head)))) (by rw[List.length_append,List.length_cons,List.length_nil];omega))) (h:=?_);refine J7 ?_)
    all_goals
    refine aR Tryz.results123 (λ w hw=>?_)
    rw[hup,show x.gns.length+1=(x.gns++[x.gen+1]).length by simp] at hw
    exact⟨x28,by rw[show x.g+1-1=x.gns.length by omega,hX,hup];rfl,trivial,hw.aV⟩
end
end

end Go.Proofs.YtpobgmdalcpomaaGreat
