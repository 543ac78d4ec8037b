/- Executions of the reference: cas. -/
import Derived.Test.YtadnboagdhcedaaGreatDoorGSh14

set_option linter.unusedSimpArgs false
set_option linter.unusedVariables false
namespace Go.Ct
section
def N8(b:Bool):Int:=if b=true then 1 else 0
theorem qC(l:List Int)(v:Int):(l++[v]).getD l.length 0=v:=by rw[fI,List.getElem?_append_right (Nat.le_refl _)];simp
end
end Go.Ct
namespace Go.Proofs.YtadnboagdhcedaaGreatDoor
section
open Go Go.RowKit Go.Ct
section
variable{k:Cl}{bx bm:Nat}{x:XS}{dn:Bool}{rs:Rs}{D:List Nat}{A:Fr}{w:World}
theorem qf(c o n:Int)(ok:x.Ok)(h:x.st=true)(hs:SF w D (xH k bx bm x dn rs) A [] (xW x) w):Calls Tryz.prog 111 #[.pointer (some ⟨bx,0,none⟩),.int .i64 c,.int .i64 o,.int .i64 n] w λ e w'=>∃q:Unit,e=.returned (.bool false)/\True/\SF w D (xH k bx bm x dn rs) [] [] (xW x) w':=by
 refine enter Tryz.func111 Tryz.ntmps111 rfl rfl (bX hs) ?_
 simp only[cO]
 refine cQ ?_;refine iR ?_;refine oX ?_;refine bG ?_;refine aC (cM (hs:=xH k bx bm x dn rs) (os:=xW x) (hc:=λ w hs=>M4 ⟨2,c,o,n⟩ ok h hs)) (λ x18 h18=>?_);refine Kb8 ?_;refine aI ?_
 refine aZ (λ c21=>?_) (λ c21=>?_)
 ·exact nv c21
 ·try (exact abt)
  refine jM ?_;refine fJ [0,1,2,3,4,5,6,7,8,9,10,11,12,13,14,15,16,17,18] ?_;refine gP ?_
  (refine aU ?_)
  refine iW ?_;refine aU ?_
  refine fT ?_
  refine z4 ?_;refine uj ?_;(refine fT ?_);refine J74 ?_;refine nq ?_;refine J7 ?_
  refine aQ Tryz.results111 (λ w hw=>?_)
  exact⟨(),rfl,trivial,hw.aS⟩
theorem rz(c o n:Int)(ok:x.Ok)(h:x.st=false)(h1:¬x.a<x.got.length)(h2:x.fr=0)(hs:SF w D (xH k bx bm x dn rs) A [] (xW x) w):Calls Tryz.prog 111 #[.pointer (some ⟨bx,0,none⟩),.int .i64 c,.int .i64 o,.int .i64 n] w λ e w'=>∃q:Unit,e=.returned (.bool false)/\True/\SF w D (xH k bx bm {x with st:=true,nx:=⟨2,c,o,n⟩} dn rs) [] [] (xW {x with st:=true,nx:=⟨2,c,o,n⟩}) w':=by
 refine enter Tryz.func111 Tryz.ntmps111 rfl rfl (bX hs) ?_
 simp only[cO]
 refine cQ ?_;refine iR ?_;refine oX ?_;refine bG ?_;refine aC (cM (hs:=xH k bx bm x dn rs) (os:=xW x) (hc:=λ w hs=>Lw ⟨2,c,o,n⟩ ok h h1 h2 hs)) (λ x18 h18=>?_);refine Kb8 ?_;refine aI ?_
 refine aZ (λ c21=>?_) (λ c21=>?_)
 ·exact nv c21
 ·try (exact abt)
  refine jM ?_;refine fJ [0,1,2,3,4,5,6,7,8,9,10,11,12,13,14,15,16,17,18] ?_;refine gP ?_
  (refine aU ?_)
  refine iW ?_;refine aU ?_
  refine fT ?_
  refine z4 ?_;refine uj ?_;(refine fT ?_);refine J74 ?_;refine nq ?_;refine J7 ?_
  refine aQ Tryz.results111 (λ w hw=>?_)
  exact⟨(),rfl,trivial,hw.aS⟩
theorem Kk(c o n:Int)(ok:x.Ok)(h:x.st=false)(h1:x.a<x.got.length)(hs:SF w D (xH k bx bm x dn rs) A [] (xW x) w):Calls Tryz.prog 111 #[.pointer (some ⟨bx,0,none⟩),.int .i64 c,.int .i64 o,.int .i64 n] w λ e w'=>∃q:Unit,e=.returned (.bool (x.got.getD x.a 0==1))/\True/\SF w D (xH k bx bm {x with a:=x.a+1} dn rs) [] [] (xW {x with a:=x.a+1}) w':=by
 have hg:=ok.lg
 refine enter Tryz.func111 Tryz.ntmps111 rfl rfl (bX hs) ?_
 simp only[cO]
 refine cQ ?_;refine iR ?_;refine oX ?_;refine bG ?_;refine aC (cM (hs:=xH k bx bm x dn rs) (os:=xW x) (hc:=λ w hs=>H0 ⟨2,c,o,n⟩ ok h h1 hs)) (λ x18 h18=>?_);refine Kb8 ?_;refine aI ?_
 refine aZ (λ c21=>?_) (λ c21=>?_)
 ·exact nv c21
 ·try (exact abt)
  refine jM ?_;refine fJ [0,1,2,3,4,5,6,7,8,9,10,11,12,13,14,15,16,17,18] ?_;refine gP ?_
  refine fT ?_
  refine iW ?_;refine aU ?_
  (refine aU ?_)
  refine z4 ?_;refine uj ?_;((refine cJ (i:=13) (hq:=(iV (m:=x.a+1) (n:=1) rf rf (by omega) (by omega))) (h:=?_)));((refine bJ (i:=14) (hq:=(cA (m:=x.got.length) (k:=x.a+1-1) (lst:=x.got) rf rf fC gB (.own .head) (by omega) (by omega))) (h:=?_)));((refine bJ (i:=15) (hq:=(cW (q:=x.a+1-1) (lst:=x.got) rf gB (.own .head) (by omega))) (h:=?_)));refine nq ?_;refine J7 ?_
  refine aQ Tryz.results111 (λ w hw=>?_)
  exact⟨(),by rw[Nat.add_sub_cancel];rfl,trivial,hw.aS⟩
theorem jg(c o n:Int)(hc:c<=9223372036854775807)(ok:x.Ok)(h:x.st=false)(h1:¬x.a<x.got.length)(h2:¬x.fr=0)(hs:SF w D (xH k bx bm x dn rs) A [] (xW x) w):Calls Tryz.prog 111 #[.pointer (some ⟨bx,0,none⟩),.int .i64 c,.int .i64 o,.int .i64 n] w λ e w'=>∃q:Bool×(Option Addr×Nat),e=.returned (.bool q.1)/\(q.1=true↔iP x.cs c o)/\SF w D (xH k bx bm {x with fr:=x.fr-1,cs:=fZ x.cs c o n,acc:=up x.acc,got:=x.got++[N8 q.1],pg:=q.2.1,kg:=q.2.2,a:=x.a+1} dn rs) [] [] (xW {x with fr:=x.fr-1,cs:=fZ x.cs c o n,acc:=up x.acc,got:=x.got++[N8 q.1],pg:=q.2.1,kg:=q.2.2,a:=x.a+1}) w':=by
 have hg:=ok.lg
 have ha:=ok.la
 have hlc:=ok.lc
 refine enter Tryz.func111 Tryz.ntmps111 rfl rfl (bX hs) ?_
 simp only[cO]
 refine cQ ?_;refine iR ?_;refine oX ?_;refine bG ?_;refine aC (cM (hs:=xH k bx bm x dn rs) (os:=xW x) (hc:=λ w hs=>Gj ⟨2,c,o,n⟩ ok h h1 h2 hs)) (λ x18 h18=>?_);refine Kb8 ?_;refine aI ?_
 refine aZ (λ c21=>?_) (λ c21=>?_)
 ·try (exact abt)
  refine F4 ?_;refine mV ?_;refine oX ?_;refine aB ?_;refine aC (cM (V:=.bool) (hc:=λ w hs=>r8 (L:=x.L) (cs:=x.cs) hs c o n hc (by omega))) (λ x29 h29=>?_);refine aI ?_
  refine aZ (λ c29=>?_) (λ c29=>?_)
  ·try (exact abt)
   have hv:(1:Int)=N8 x29:=by rw[c29];rfl
   refine dL ?_;refine J1 ?_;refine eG [(0,[]),(1,[]),(2,[]),(3,[]),(4,[]),(5,[]),(6,[]),(9,[]),(10,[]),(11,[]),(12,[]),(13,[]),(7,[5,12]),(8,[12]),(14,[]),(15,[]),(16,[]),(17,[]),(18,[]),(19,[])] ?_;refine gP ?_;refine U1 ?_;refine ud ?_;refine cJ (i:=13) (hq:=(lT (m:=x.a) (n:=1) rf rf (by omega))) (h:=?_);refine cU (h:=λ x37=>?_);((refine cY (i:=8) (hq:=(bI.eZ (qT (l:=x.got) (m:=x.got.length) rf rf .head rfl fin Xg fC (by omega)) xN)) (h:=λ x38=>?_);try (refine fW (λ h38=>?_))));refine J4 ?_;refine lZ (i:=16) (hq:=(by exact sY λ _=>eA rf dV wn rf gB rf rf xL)) (h:=λ _=>?_);refine J4 ?_;refine lZ (i:=19) (hq:=(by exact sY λ _=>eA rf dV wn rf gB rf rf xL)) (h:=λ _=>?_);refine dS ?_;refine aR ?_;refine fJ [0,1,2,3,4,5,6,7,8,9,10,11,12,13,14,15,16,17,18] ?_;refine gP ?_
   (refine aU ?_)
   refine iW ?_;refine aU ?_
   (refine aU ?_)
   refine z4 ?_;refine uj ?_;((refine cJ (i:=13) (hq:=(iV (m:=x.a+1) (n:=1) rf rf (by omega) (by omega))) (h:=?_)));((refine bJ (i:=14) (hq:=(cA (m:=x.got.length+1) (k:=x.a+1-1) rf rf fC gB (.own .head) (by omega) (by rw[List.length_append,List.length_cons,List.length_nil];omega))) (h:=?_)));((refine bJ (i:=15) (hq:=(cW (q:=x.a+1-1) rf gB (.own .head) (by rw[List.length_append,List.length_cons,List.length_nil];omega))) (h:=?_)));refine nq ?_;refine J7 ?_
   refine aQ Tryz.results111 (λ w hw=>?_)
   rw[hv] at hw
   rw[show x.got.length+1=(x.got++[N8 x29]).length by simp] at hw
   exact⟨(x29,x38),by rw[show x.a+1-1=x.got.length by omega,qC,c29];rfl,h29,hw.aS⟩
  ·try (exact abt)
   have hv:(0:Int)=N8 x29:=by rw[c29];rfl
   refine bA ?_;refine eG [(0,[]),(1,[]),(2,[]),(3,[]),(4,[]),(5,[]),(6,[]),(9,[]),(10,[]),(11,[]),(12,[]),(13,[]),(7,[5,12]),(8,[12]),(14,[]),(15,[]),(16,[]),(17,[]),(18,[]),(19,[])] ?_;refine gP ?_;refine U1 ?_;refine ud ?_;refine cJ (i:=13) (hq:=(lT (m:=x.a) (n:=1) rf rf (by omega))) (h:=?_);refine cU (h:=λ x37=>?_);((refine cY (i:=8) (hq:=(bI.eZ (qT (l:=x.got) (m:=x.got.length) rf rf .head rfl fin Xg fC (by omega)) xN)) (h:=λ x38=>?_);try (refine fW (λ h38=>?_))));refine J4 ?_;refine lZ (i:=16) (hq:=(by exact sY λ _=>eA rf dV wn rf gB rf rf xL)) (h:=λ _=>?_);refine J4 ?_;refine lZ (i:=19) (hq:=(by exact sY λ _=>eA rf dV wn rf gB rf rf xL)) (h:=λ _=>?_);refine dS ?_;refine aR ?_;refine fJ [0,1,2,3,4,5,6,7,8,9,10,11,12,13,14,15,16,17,18] ?_;refine gP ?_
   (refine aU ?_)
   refine iW ?_;refine aU ?_
   (refine aU ?_)
   refine z4 ?_;refine uj ?_;((refine cJ (i:=13) (hq:=(iV (m:=x.a+1) (n:=1) rf rf (by omega) (by omega))) (h:=?_)));((refine bJ (i:=14) (hq:=(cA (m:=x.got.length+1) (k:=x.a+1-1) rf rf fC gB (.own .head) (by omega) (by rw[List.length_append,List.length_cons,List.length_nil];omega))) (h:=?_)));((refine bJ (i:=15) (hq:=(cW (q:=x.a+1-1) rf gB (.own .head) (by rw[List.length_append,List.length_cons,List.length_nil];omega))) (h:=?_)));refine nq ?_;refine J7 ?_
   refine aQ Tryz.results111 (λ w hw=>?_)
   rw[hv] at hw
   rw[show x.got.length+1=(x.got++[N8 x29]).length by simp] at hw
   exact⟨(x29,x38),by rw[show x.a+1-1=x.got.length by omega,qC,c29];rfl,h29,hw.aS⟩
 ·exact nv c21
end
end

/- Executions of the reference: nodes, allocations, cells, generations. -/
section
open Go Go.RowKit Go.Ct
section
variable{k:Cl}{bx bm:Nat}{x:XS}{dn:Bool}{rs:Rs}{D:List Nat}{A:Fr}{w:World}
theorem eS(r:Int)(hr:r<=9223372036854775807)(ok:x.Ok)(hs:SF w D (xH k bx bm x dn rs) A [] (xW x) w):Calls Tryz.prog 110 #[.pointer (some ⟨bx,0,none⟩),.int .i64 r] w λ e w'=>∃q:Unit,e=.returned (aA x.L r).nd.v/\True/\SF w D (xH k bx bm x dn rs) [] [] (xW x) w':=by
 have hl:=ok.lL
 refine enter Tryz.func110 Tryz.ntmps110 rfl rfl (bX hs) ?_
 simp only[cO]
 refine J0 ?_;refine aN (λ x4=>?_);refine aI ?_;refine mV ?_;refine aB ?_;refine aC (cM (hc:=λ w hs=>j8 (L:=x.L) (cs:=x.cs) hs r hr (by omega))) (λ x10 h10=>?_);refine J5 ?_
 refine bK Tryz.results110 (λ w hw=>?_)
 exact⟨(),rfl,trivial,hw.aS⟩
theorem Zg{n:Nd}(i:Int)(h:x.st=true)(hs:SF w D (xH k bx bm x dn rs) A [] (xW x) w):Calls Tryz.prog 114 #[.pointer (some ⟨bx,0,none⟩),n.v,.int .i64 i] w λ e w'=>∃q:Unit,e=.returned (.int .i64 0)/\True/\SF w D (xH k bx bm x dn rs) [] [] (xW x) w':=by
 refine enter Tryz.func114 Tryz.ntmps114 rfl rfl (bX hs) ?_
 simp only[cO]
 simp only[Nd.v]
 refine J0 ?_;refine bQ (λ x4=>?_);refine gQ ?_;refine Kc6 ?_
 refine aZ (λ c10=>?_) (λ c10=>?_)
 ·refine cQ ?_
  refine aQ Tryz.results114 (λ w hw=>?_)
  exact⟨(),rfl,trivial,hw.aS⟩
 ·exact absurd (h.symm.trans c10) (by decide)
theorem alloc_old{n:Nd}(i:Int)(ok:x.Ok)(h:x.st=false)(h1:x.m<x.made.length)(hl:x.made.length<=274877906944)(hs:SF w D (xH k bx bm x dn rs) A [] (xW x) w):Calls Tryz.prog 114 #[.pointer (some ⟨bx,0,none⟩),n.v,.int .i64 i] w λ e w'=>∃q:Unit,e=.returned (.int .i64 (x.made.getD x.m 0))/\True/\SF w D (xH k bx bm {x with m:=x.m+1} dn rs) [] [] (xW {x with m:=x.m+1}) w':=by
 refine enter Tryz.func114 Tryz.ntmps114 rfl rfl (bX hs) ?_
 simp only[cO]
 simp only[Nd.v]
 refine J0 ?_;refine bQ (λ x4=>?_);refine gQ ?_;refine Kc6 ?_
 refine aZ (λ c10=>?_) (λ c10=>?_)
 ·try (exfalso;omega)
  exact absurd (h.symm.trans c10) (by decide)
 ·try (exfalso;omega)
  refine jM ?_;refine aR ?_;refine fJ [0,1,2,3,4,5,6,7,8,9] ?_;refine Cx ?_;refine lN ?_;refine mZ ?_;refine dS ?_
  refine aZ (λ c20=>?_) (λ c20=>?_)
  ·try (exfalso;omega)
  ·try (exfalso;omega)
   refine um ?_;refine aE (lT (m:=x.m) (n:=1) rf rf (by omega)) rfl ?_;refine Kx ?_;refine jY (by exact sY λ _=>eA rf dV wn rf gB rf rf xL) (λ _=>?_);refine Sx ?_;refine fJ [0,1,2,3,4,5,6,7,8,9,10,11] ?_;refine Cx ?_;refine cJ (i:=8) (hq:=(iV (m:=x.m+1) (n:=1) rf rf (by omega) (by omega))) (h:=?_);refine bJ (i:=9) (hq:=(cA (m:=x.made.length) (k:=x.m+1-1) (lst:=x.made) rf rf fC gB (.own (.tail .head)) (by omega) (by omega))) (h:=?_);refine bJ (i:=10) (hq:=(cW (q:=x.m+1-1) (lst:=x.made) rf gB (.own (.tail .head)) (by omega))) (h:=?_);refine J7 ?_
   refine aQ Tryz.results114 (λ w hw=>?_)
   exact⟨(),by rw[Nat.add_sub_cancel];rfl,trivial,hw.aS⟩
theorem U6{n:Nd}{xs:List Int}{ys:List Pr}(i:Int)(ok:x.Ok)(h:x.st=false)(h1:x.m=x.made.length)(hl:x.made.length<=137438953472)(hLl:x.L.length<=274877906900)(hcl:x.cs.length<=274877906900)(e1:n.brN=xs.length)(e2:n.prN=ys.length)(hx:xs.length<=274877906944)(hy:ys.length<=274877906944)(hs:SF w D (xH k bx bm x dn rs) [(n.brA,aG xs),(n.prA,dG ys)] [] (xW x) w):Calls Tryz.prog 114 #[.pointer (some ⟨bx,0,none⟩),n.v,.int .i64 i] w λ e w'=>∃q:AX×(Option Addr×Nat),e=.returned (.int .i64 ((x.L.length+1:Nat):Int))/\True /\
   SF w D (xH k bx bm {x with L:=x.L++[kG n xs ys x.cs.length q.1],cs:=gH n.kind x.cs i,pn:=q.1.pn,cn:=q.1.cn,pc:=q.1.pc,cc:=q.1.cc,made:=x.made++[((x.L.length+1:Nat):Int)],pm:=q.2.1,km:=q.2.2,m:=x.m+1} dn rs) [] (kG n xs ys x.cs.length q.1).fr (xW {x with L:=x.L++[kG n xs ys x.cs.length q.1],cs:=gH n.kind x.cs i,pn:=q.1.pn,cn:=q.1.cn,pc:=q.1.pc,cc:=q.1.cc,made:=x.made++[((x.L.length+1:Nat):Int)],pm:=q.2.1,km:=q.2.2,m:=x.m+1}) w':=by
 refine enter Tryz.func114 Tryz.ntmps114 rfl rfl (bX hs) ?_
 simp only[cO]
 simp only[Nd.v]
 refine J0 ?_;refine bQ (λ x4=>?_);refine gQ ?_;refine Kc6 ?_
 refine aZ (λ c10=>?_) (λ c10=>?_)
 ·try (exfalso;omega)
  exact absurd (h.symm.trans c10) (by decide)
 ·try (exfalso;omega)
  refine jM ?_;refine aR ?_;refine fJ [0,1,2,3,4,5,6,7,8,9] ?_;refine Cx ?_;refine lN ?_;refine mZ ?_;refine dS ?_
  refine aZ (λ c20=>?_) (λ c20=>?_)
  ·try (exfalso;omega)
   refine eG [(0,[]),(1,[]),(2,[]),(3,[]),(4,[]),(5,[]),(6,[]),(7,[]),(8,[]),(9,[]),(10,[]),(11,[4]),(12,[4]),(13,[]),(14,[]),(15,[]),(16,[])] ?_;refine aU ?_;refine Cx ?_;refine bO ?_;refine aU ?_;refine bC (i:=11) (hq:=(cM (A0:=[(n.brA,aG xs),(n.prA,dG ys)]) (hc:=λ w hs=>nB (n:=n) (L:=x.L) (cs:=x.cs) i hs e1 e2 hx hy (by omega) (by omega)))) (h:=λ x32 h32=>?_);refine cU (h:=λ x33=>?_);((refine cY (i:=13) (hq:=(bI.eZ (qT (l:=x.made) (m:=x.made.length) rf rf (.tail .head) rfl fin Xg fC (by omega)) xN)) (h:=λ x34=>?_);try (refine fW (λ h34=>?_))));refine J4 ?_;refine lZ (i:=16) (hq:=(by exact sY λ _=>eA rf dV wn rf gB rf rf xL)) (h:=λ _=>?_);refine dS ?_;refine mV ?_;refine aE (lT (m:=x.m) (n:=1) rf rf (by omega)) rfl ?_;refine Kx ?_;refine jY (by exact sY λ _=>eA rf dV wn rf gB rf rf xL) (λ _=>?_);refine Sx ?_;refine fJ [0,1,2,3,4,5,6,7,8,9,10,11] ?_;refine Cx ?_;refine cJ (i:=8) (hq:=(iV (m:=x.m+1) (n:=1) rf rf (by omega) (by omega))) (h:=?_);refine bJ (i:=9) (hq:=(cA (m:=x.made.length+1) (k:=x.m+1-1) rf rf fC gB (.own (.tail .head)) (by omega) (by rw[List.length_append,List.length_cons,List.length_nil];omega))) (h:=?_);refine bJ (i:=10) (hq:=(cW (q:=x.m+1-1) rf gB (.own (.tail .head)) (by rw[List.length_append,List.length_cons,List.length_nil];omega))) (h:=?_);refine J7 ?_
   refine aQ Tryz.results114 (λ w hw=>?_)
   rw[show x.made.length+1=(x.made++[((x.L.length+1:Nat):Int)]).length by simp] at hw
   exact⟨(x32,x34),by rw[show x.m+1-1=x.made.length by omega,qC];rfl,trivial,hw.ret (List.Sublist.cons _ (List.Sublist.refl _)) (aV.qL λ f hf=>List.mem_cons_of_mem _ (List.mem_append_left _ hf)) (List.Sublist.refl _)⟩
  ·try (exfalso;omega)
end
end

/- Executions of the reference: cells, generations. -/
section
open Go Go.RowKit Go.Ct
theorem Lk:dC Tryz.prog 27=some (.int .i64 0):=by kernel_rfl
theorem Ec:dF Tryz.prog 111 27 [.int .i64 0]:=mE (by kernel_rfl) Lk rfl
section
variable{k:Cl}{bx bm:Nat}{x:XS}{dn:Bool}{rs:Rs}{D:List Nat}{A:Fr}{w:World}
theorem mj(i:Int)(h:x.st=true)(hs:SF w D (xH k bx bm x dn rs) A [] (xW x) w):Calls Tryz.prog 126 #[.pointer (some ⟨bx,0,none⟩),.int .i64 i] w λ e w'=>∃q:Unit,e=.returned (.int .i64 0)/\True/\SF w D (xH k bx bm x dn rs) [] [] (xW x) w':=by
 refine enter Tryz.func126 Tryz.ntmps126 rfl rfl (bX hs) ?_
 simp only[cO]
 refine F4 ?_;refine Kc6 ?_
 refine aZ (λ c8=>?_) (λ c8=>?_)
 ·refine cQ ?_
  refine aQ Tryz.results126 (λ w hw=>?_)
  exact⟨(),rfl,trivial,hw.aS⟩
 ·exact absurd (h.symm.trans c8) (by decide)
theorem E0(i:Int)(h:x.st=false)(h1:x.c<x.cel.length)(hl:x.cel.length<=274877906944)(hs:SF w D (xH k bx bm x dn rs) A [] (xW x) w):Calls Tryz.prog 126 #[.pointer (some ⟨bx,0,none⟩),.int .i64 i] w λ e w'=>∃q:Unit,e=.returned (.int .i64 (x.cel.getD x.c 0))/\True/\SF w D (xH k bx bm {x with c:=x.c+1} dn rs) [] [] (xW {x with c:=x.c+1}) w':=by
 refine enter Tryz.func126 Tryz.ntmps126 rfl rfl (bX hs) ?_
 simp only[cO]
 refine F4 ?_;refine Kc6 ?_
 refine aZ (λ c8=>?_) (λ c8=>?_)
 ·try (exfalso;omega)
  exact absurd (h.symm.trans c8) (by decide)
 ·try (exfalso;omega)
  refine jM ?_;refine aR ?_;refine fJ [0,1,2,3,4,5,6,7,8,9] ?_;refine Cx ?_;refine lN ?_;refine mZ ?_;refine dS ?_
  refine aZ (λ c18=>?_) (λ c18=>?_)
  ·try (exfalso;omega)
  ·try (exfalso;omega)
   refine um ?_;refine aE (lT (m:=x.c) (n:=1) rf rf (by omega)) rfl ?_;refine Kx ?_;refine jY (by exact sY λ _=>eA rf dV wn rf gB rf rf xL) (λ _=>?_);refine Sx ?_;refine fJ [0,1,2,3,4,5,6,7,8,9,10,11] ?_;refine Cx ?_;refine cJ (i:=8) (hq:=(iV (m:=x.c+1) (n:=1) rf rf (by omega) (by omega))) (h:=?_);refine bJ (i:=9) (hq:=(cA (m:=x.cel.length) (k:=x.c+1-1) (lst:=x.cel) rf rf fC gB (.own (.tail (.tail .head))) (by omega) (by omega))) (h:=?_);refine bJ (i:=10) (hq:=(cW (q:=x.c+1-1) (lst:=x.cel) rf gB (.own (.tail (.tail .head))) (by omega))) (h:=?_);refine J7 ?_
   refine aQ Tryz.results126 (λ w hw=>?_)
   exact⟨(),by rw[Nat.add_sub_cancel];rfl,trivial,hw.aS⟩
theorem Xu(i:Int)(h:x.st=false)(h1:x.c=x.cel.length)(hl:x.cel.length<=137438953472)(hcl:x.cs.length<=274877906900)(hs:SF w D (xH k bx bm x dn rs) A [] (xW x) w):Calls Tryz.prog 126 #[.pointer (some ⟨bx,0,none⟩),.int .i64 i] w λ e w'=>∃q:(Option Addr×Nat)×(Option Addr×Nat),e=.returned (.int .i64 ((x.cs.length+1:Nat):Int))/\True /\
   SF w D (xH k bx bm {x with cs:=x.cs++[i],pc:=q.1.1,cc:=q.1.2,cel:=x.cel++[((x.cs.length+1:Nat):Int)],pl:=q.2.1,kl:=q.2.2,c:=x.c+1} dn rs) [] [] (xW {x with cs:=x.cs++[i],pc:=q.1.1,cc:=q.1.2,cel:=x.cel++[((x.cs.length+1:Nat):Int)],pl:=q.2.1,kl:=q.2.2,c:=x.c+1}) w':=by
 refine enter Tryz.func126 Tryz.ntmps126 rfl rfl (bX hs) ?_
 simp only[cO]
 refine F4 ?_;refine Kc6 ?_
 refine aZ (λ c8=>?_) (λ c8=>?_)
 ·try (exfalso;omega)
  exact absurd (h.symm.trans c8) (by decide)
 ·try (exfalso;omega)
  refine jM ?_;refine aR ?_;refine fJ [0,1,2,3,4,5,6,7,8,9] ?_;refine Cx ?_;refine lN ?_;refine mZ ?_;refine dS ?_
  refine aZ (λ c18=>?_) (λ c18=>?_)
  ·try (exfalso;omega)
   refine eG [(0,[]),(1,[]),(2,[]),(3,[]),(4,[]),(5,[]),(6,[]),(7,[]),(8,[]),(9,[]),(10,[4]),(11,[4]),(12,[]),(13,[]),(14,[]),(15,[])] ?_;refine aU ?_;refine Cx ?_;refine aU ?_;refine bC (i:=10) (hq:=(cM (hc:=λ w hs=>iU (L:=x.L) (cs:=x.cs) i hs (by omega)))) (h:=λ x29 h29=>?_);refine cY (i:=11) (hq:=((by exact Fo (λ _=>cE (cs:=aG [((x.cs.length+1:Nat):Int)]) Ec F5 rfl rfl rfl rfl rfl)))) (h:=λ x30=>?_);((refine cY (i:=12) (hq:=(bI.eZ (qT (l:=x.cel) (m:=x.cel.length) rf rf (.tail (.tail .head)) rfl fin (by exact Ec) fC (by omega)) xN)) (h:=λ x31=>?_);try (refine fW (λ h31=>?_))));refine J4 ?_;refine lZ (i:=15) (hq:=(by exact sY λ _=>eA rf dV wn rf gB rf rf xL)) (h:=λ _=>?_);refine dS ?_;refine mV ?_;refine aE (lT (m:=x.c) (n:=1) rf rf (by omega)) rfl ?_;refine Kx ?_;refine jY (by exact sY λ _=>eA rf dV wn rf gB rf rf xL) (λ _=>?_);refine Sx ?_;refine fJ [0,1,2,3,4,5,6,7,8,9,10,11] ?_;refine Cx ?_;refine cJ (i:=8) (hq:=(iV (m:=x.c+1) (n:=1) rf rf (by omega) (by omega))) (h:=?_);refine bJ (i:=9) (hq:=(cA (m:=x.cel.length+1) (k:=x.c+1-1) rf rf fC gB (.own (.tail (.tail .head))) (by omega) (by rw[List.length_append,List.length_cons,List.length_nil];omega))) (h:=?_);refine bJ (i:=10) (hq:=(cW (q:=x.c+1-1) rf gB (.own (.tail (.tail .head))) (by rw[List.length_append,List.length_cons,List.length_nil];omega))) (h:=?_);refine J7 ?_
   refine aQ Tryz.results126 (λ w hw=>?_)
   rw[show x.cel.length+1=(x.cel++[((x.cs.length+1:Nat):Int)]).length by simp] at hw
   exact⟨(x29,x31),by rw[show x.c+1-1=x.cel.length by omega,qC];rfl,trivial,hw.aS⟩
  ·try (exfalso;omega)
theorem p9(h:x.st=true)(hs:SF w D (xH k bx bm x dn rs) A [] (xW x) w):Calls Tryz.prog 128 #[.pointer (some ⟨bx,0,none⟩)] w λ e w'=>∃q:Unit,e=.returned (.int .i64 0)/\True/\SF w D (xH k bx bm x dn rs) [] [] (xW x) w':=by
 refine enter Tryz.func128 Tryz.ntmps128 rfl rfl (bX hs) ?_
 simp only[cO]
 refine F4 ?_;refine Kc6 ?_
 refine aZ (λ c6=>?_) (λ c6=>?_)
 ·refine cQ ?_
  refine aQ Tryz.results128 (λ w hw=>?_)
  exact⟨(),rfl,trivial,hw.aS⟩
 ·exact absurd (h.symm.trans c6) (by decide)
theorem Ju(h:x.st=false)(h1:x.g<x.gns.length)(hl:x.gns.length<=274877906944)(hs:SF w D (xH k bx bm x dn rs) A [] (xW x) w):Calls Tryz.prog 128 #[.pointer (some ⟨bx,0,none⟩)] w λ e w'=>∃q:Unit,e=.returned (.int .i64 (x.gns.getD x.g 0))/\True/\SF w D (xH k bx bm {x with g:=x.g+1} dn rs) [] [] (xW {x with g:=x.g+1}) w':=by
 refine enter Tryz.func128 Tryz.ntmps128 rfl rfl (bX hs) ?_
 simp only[cO]
 refine F4 ?_;refine Kc6 ?_
 refine aZ (λ c6=>?_) (λ c6=>?_)
 ·try (exfalso;omega)
  exact absurd (h.symm.trans c6) (by decide)
 ·try (exfalso;omega)
  refine jM ?_;refine aR ?_;refine fJ [0,1,2,3,4,5,6,7,8,9] ?_;refine Cx ?_;refine lN ?_;refine mZ ?_;refine dS ?_
  refine aZ (λ c16=>?_) (λ c16=>?_)
  ·try (exfalso;omega)
  ·try (exfalso;omega)
   refine um ?_;refine aE (lT (m:=x.g) (n:=1) rf rf (by omega)) rfl ?_;refine Kx ?_;refine jY (by exact sY λ _=>eA rf dV wn rf gB rf rf xL) (λ _=>?_);refine Sx ?_;refine fJ [0,1,2,3,4,5,6,7,8,9,10,11] ?_;refine Cx ?_;refine cJ (i:=8) (hq:=(iV (m:=x.g+1) (n:=1) rf rf (by omega) (by omega))) (h:=?_);refine bJ (i:=9) (hq:=(cA (m:=x.gns.length) (k:=x.g+1-1) (lst:=x.gns) rf rf fC gB (.own (.tail (.tail (.tail .head)))) (by omega) (by omega))) (h:=?_);refine bJ (i:=10) (hq:=(cW (q:=x.g+1-1) (lst:=x.gns) rf gB (.own (.tail (.tail (.tail .head)))) (by omega))) (h:=?_);refine J7 ?_
   refine aQ Tryz.results128 (λ w hw=>?_)
   exact⟨(),by rw[Nat.add_sub_cancel];rfl,trivial,hw.aS⟩
theorem dm(h:x.st=false)(h1:x.g=x.gns.length)(hl:x.gns.length<=137438953472)(hgn : -1<=x.gen/\x.gen<=137438953600)(hs:SF w D (xH k bx bm x dn rs) A [] (xW x) w):Calls Tryz.prog 128 #[.pointer (some ⟨bx,0,none⟩)] w λ e w'=>∃q:Option Addr×Nat,e=.returned (.int .i64 (x.gen+1))/\True /\
   SF w D (xH k bx bm {x with gen:=x.gen+1,gns:=x.gns++[x.gen+1],pe:=q.1,ke:=q.2,g:=x.g+1} dn rs) [] [] (xW {x with gen:=x.gen+1,gns:=x.gns++[x.gen+1],pe:=q.1,ke:=q.2,g:=x.g+1}) w':=by
 have hup:up x.gen=x.gen+1:=wrap_i64 (by omega) (by omega)
 refine enter Tryz.func128 Tryz.ntmps128 rfl rfl (bX hs) ?_
 simp only[cO]
 refine F4 ?_;refine Kc6 ?_
 refine aZ (λ c6=>?_) (λ c6=>?_)
 ·try (exfalso;omega)
  exact absurd (h.symm.trans c6) (by decide)
 ·try (exfalso;omega)
  refine jM ?_;refine aR ?_;refine fJ [0,1,2,3,4,5,6,7,8,9] ?_;refine Cx ?_;refine lN ?_;refine mZ ?_;refine dS ?_
  refine aZ (λ c16=>?_) (λ c16=>?_)
  ·try (exfalso;omega)
   refine eG [(0,[]),(1,[]),(2,[]),(3,[]),(4,[]),(5,[]),(6,[]),(7,[]),(8,[]),(9,[4]),(10,[4]),(11,[]),(12,[]),(13,[]),(14,[])] ?_;refine aU ?_;refine Cx ?_;refine bC (i:=9) (hq:=(cM (hc:=λ w hs=>Hb (L:=x.L) (cs:=x.cs) (gen:=x.gen) hs))) (h:=λ x26 h26=>?_);refine cU (h:=λ x27=>?_);((refine cY (i:=11) (hq:=(bI.eZ (qT (l:=x.gns) (m:=x.gns.length) rf rf (.tail (.tail (.tail .head))) rfl fin (by exact Dg) fC (by omega)) xN)) (h:=λ x28=>?_);try (refine fW (λ h28=>?_))));refine J4 ?_;refine lZ (i:=14) (hq:=(by exact sY λ _=>eA rf dV wn rf gB rf rf xL)) (h:=λ _=>?_);refine dS ?_;refine mV ?_;refine aE (lT (m:=x.g) (n:=1) rf rf (by omega)) rfl ?_;refine Kx ?_;refine jY (by exact sY λ _=>eA rf dV wn rf gB rf rf xL) (λ _=>?_);refine Sx ?_;refine fJ [0,1,2,3,4,5,6,7,8,9,10,11] ?_;refine Cx ?_;refine cJ (i:=8) (hq:=(iV (m:=x.g+1) (n:=1) rf rf (by omega) (by omega))) (h:=?_);refine bJ (i:=9) (hq:=(cA (m:=x.gns.length+1) (k:=x.g+1-1) rf rf fC gB (.own (.tail (.tail (.tail .head)))) (by omega) (by rw[List.length_append,List.length_cons,List.length_nil];omega))) (h:=?_);refine bJ (i:=10) (hq:=(cW (q:=x.g+1-1) rf gB (.own (.tail (.tail (.tail .head)))) (by rw[List.length_append,List.length_cons,List.length_nil];omega))) (h:=?_);refine J7 ?_
   refine aQ Tryz.results128 (λ w hw=>?_)
   rw[hup,show x.gns.length+1=(x.gns++[x.gen+1]).length by simp] at hw
   exact⟨x28,by rw[show x.g+1-1=x.gns.length by omega,qC,hup];rfl,trivial,hw.aS⟩
  ·try (exfalso;omega)
end
end

/- Executions of the reference: what the small methods do to the rest of the call. -/
end Go.Proofs.YtadnboagdhcedaaGreatDoor
namespace Go.Ct
section
open Go Go.RowKit
section
variable{g:Gx}{x:XS}{N:List aL}
theorem XS.Ok.ny(h:x.Ok){y:XS}(e1:y.L=x.L)(e2:y.cs=x.cs)(e3:y.got=x.got)(e4:y.made=x.made)(e5:y.cel=x.cel)(e6:y.gns=x.gns)(ha:y.a<=x.got.length)(hm:y.m<=x.made.length)(hc:y.c<=x.cel.length)(hg:y.g<=x.gns.length)(hf:y.fr<=1)(e7:y.gen=x.gen:=by rfl):y.Ok :=
 ⟨by rw[e1];exact h.fit,by rw[e1,e2];exact h.nd,by rw[e1,e2];exact h.cs,by rw[e1,e3];exact h.got,by rw[e1,e4];exact h.made,by rw[e1];exact h.two,by rw[e1];exact h.lL,by rw[e2];exact h.lc,by rw[e3];exact h.lg,by rw[e3];exact ha,by rw[e4];exact hm,by rw[e5];exact hc,by rw[e6];exact hg,hf,by rw[e1];exact h.ys,by rw[e7];exact h.gen0,by rw[e4];exact h.ms,by rw[e4];exact h.m1⟩
theorem Nx.st{t:Tr}(hs:x.st=true)(go:fD g x t)(ok:x.Ok){t':Tr}:Nx g x x [] t' 0:=⟨go.bS hs,ok,by simp,Nat.le_refl _,bH _⟩
theorem Nx.cC{x':XS}{t t':Tr}{b b':Int}(h:Nx g x x' N t b)(go:fD g x' t')(hb:b'<=x'.L.length):Nx g x x' N t' b':=⟨go,h.ok,h.ext,h.lc,hb⟩
theorem Nx.len{x':XS}{t:Tr}{b:Int}(h:Nx g x x' N t b):x.L.length<=x'.L.length:=by rw[h.ext,List.length_append];omega
theorem Nx.trans{x1 x2:XS}{N1 N2:List aL}{t1 t2:Tr}{b1 b2:Int}(h1:Nx g x x1 N1 t1 b1)(h2:Nx g x1 x2 N2 t2 b2):Nx g x x2 (N1++N2) t2 b2:=⟨h2.go,h2.ok,by rw[h2.ext,h1.ext,List.append_assoc],Nat.le_trans h1.lc h2.lc,h2.bd⟩
theorem Nx.ext'{x':XS}{t t':Tr}{b b':Int}(h:Nx g x x' (N++[]) t b)(go:fD g x' t')(hb:b'<=x'.L.length):Nx g x x' N t' b':=⟨go,h.ok,by have:=h.ext;rwa [List.append_nil] at this,h.lc,hb⟩
theorem Nx.start{t:Tr}(go:fD g x t)(ok:x.Ok):Nx g x x [] t 0:=⟨go,ok,by simp,Nat.le_refl _,bH _⟩
end
end
end Go.Ct
namespace Go.Proofs.YtadnboagdhcedaaGreatDoor
section
open Go Go.RowKit Go.Ct
section
variable{k:Cl}{bx bm:Nat}{x:XS}{dn:Bool}{rs:Rs}{D:List Nat}{A:Fr}{w:World}{g:Gx}
theorem oU(hg:g.Ok)(c:Int)(K:Int->Tr)(hc:c<=9223372036854775807)(go:fD g x (.load c K))(ok:x.Ok)(hs:SF w D (xH k bx bm x dn rs) A [] (xW x) w):Calls Tryz.prog 109 #[.pointer (some ⟨bx,0,none⟩),.int .i64 c] w λ e w'=>∃q:Int×XS,e=.returned (.int .i64 q.1)/\Nx g x q.2 [] (K q.1) q.1/\SF w D (xH k bx bm q.2 dn rs) [] [] (xW q.2) w':=by
 cases hst:x.st with
 | true=>exact(j1 c ok hst hs).mono λ e w' ⟨_,q1,_,q3⟩=>⟨(0,x),q1,Nx.st hst go ok,q3⟩
 | false =>
  have hgd:=go.run hst
  by_cases h1:x.a<x.got.length
  ·refine(Dw c ok hst h1 hs).mono λ e w' ⟨_,q1,_,q3⟩=>⟨(x.got.getD x.a 0,{x with a:=x.a+1}),q1,?_,q3⟩
   exact⟨.inl ⟨hst,hgd.Dw h1⟩,ok.ny rfl rfl rfl rfl rfl rfl h1 ok.lm ok.lk ok.le ok.fr,by simp,Nat.le_refl _,mI ok.got _⟩
  ·have hat:=hgd.ic h1
   by_cases h2:x.fr=0
   ·refine(jn c ok hst h1 h2 hs).mono λ e w' ⟨_,q1,_,q3⟩=>⟨(0,{x with st:=true,nx:=⟨1,c,0,0⟩}),q1,?_,q3⟩
    have hgo:fD g {x with st:=true,nx:=⟨1,c,0,0⟩} (.load c K):=hat.stop h2 rfl rfl rfl rfl rfl rfl rfl rfl rfl
    exact⟨hgo.bS rfl,ok.ny rfl rfl rfl rfl rfl rfl ok.la ok.lm ok.lk ok.le ok.fr,by simp,Nat.le_refl _,bH _⟩
   ·refine(Y8 c hc ok hst h1 h2 hs).mono λ e w' ⟨q,q1,_,q3⟩=>⟨(bV x.cs c,{x with fr:=x.fr-1,acc:=up x.acc,got:=x.got++[bV x.cs c],pg:=q.1,kg:=q.2,a:=x.a+1}),q1,?_,q3⟩
    have hN:=hat.hN
    have hgN:=hg.hN
    have hgo:fD g {x with fr:=x.fr-1,acc:=up x.acc,got:=x.got++[bV x.cs c],pg:=q.1,kg:=q.2,a:=x.a+1} (K (bV x.cs c)):=hat.now (by omega) (λ L=>Wk.ov _) (.load c K x.mm) hst rfl rfl rfl rfl rfl rfl rfl rfl rfl rfl
    refine⟨hgo,⟨ok.fit,ok.nd,ok.cs,λ v hv=>?_,ok.made,ok.two,ok.lL,ok.lc,?_,?_,ok.lm,ok.lk,ok.le,?_,ok.ys,ok.gen0,ok.ms,ok.m1⟩,by simp,Nat.le_refl _,ok.cell c⟩
    ·rcases List.mem_append.1 hv with hv|hv
     ·exact ok.got v hv
     ·rw[List.mem_singleton.1 hv];exact ok.cell c
    ·show(x.got++[bV x.cs c]).length<=_
     rw[List.length_append,List.length_cons,List.length_nil];omega
    ·show x.a+1<=(x.got++[bV x.cs c]).length
     have:=ok.la
     rw[List.length_append,List.length_cons,List.length_nil];omega
    ·show x.fr-1<=1
     have:=ok.fr;omega
theorem uC(hg:g.Ok)(c o n:Int)(K:Bool->Tr)(hc:c<=9223372036854775807)(hn:n<=x.L.length)(go:fD g x (.nV c o n K))(ok:x.Ok)(hs:SF w D (xH k bx bm x dn rs) A [] (xW x) w):Calls Tryz.prog 111 #[.pointer (some ⟨bx,0,none⟩),.int .i64 c,.int .i64 o,.int .i64 n] w λ e w'=>∃q:Bool×XS,e=.returned (.bool q.1)/\Nx g x q.2 [] (K q.1) 0/\SF w D (xH k bx bm q.2 dn rs) [] [] (xW q.2) w':=by
 cases hst:x.st with
 | true=>exact(qf c o n ok hst hs).mono λ e w' ⟨_,q1,_,q3⟩=>⟨(false,x),q1,Nx.st hst go ok,q3⟩
 | false =>
  have hgd:=go.run hst
  by_cases h1:x.a<x.got.length
  ·refine(Kk c o n ok hst h1 hs).mono λ e w' ⟨_,q1,_,q3⟩=>⟨(x.got.getD x.a 0==1,{x with a:=x.a+1}),q1,?_,q3⟩
   exact⟨.inl ⟨hst,hgd.Kk h1⟩,ok.ny rfl rfl rfl rfl rfl rfl h1 ok.lm ok.lk ok.le ok.fr,by simp,Nat.le_refl _,bH _⟩
  ·have hat:=hgd.qt h1
   by_cases h2:x.fr=0
   ·refine(rz c o n ok hst h1 h2 hs).mono λ e w' ⟨_,q1,_,q3⟩=>⟨(false,{x with st:=true,nx:=⟨2,c,o,n⟩}),q1,?_,q3⟩
    have hgo:fD g {x with st:=true,nx:=⟨2,c,o,n⟩} (.nV c o n K):=hat.stop h2 rfl rfl rfl rfl rfl rfl rfl rfl rfl
    exact⟨hgo.bS rfl,ok.ny rfl rfl rfl rfl rfl rfl ok.la ok.lm ok.lk ok.le ok.fr,by simp,Nat.le_refl _,bH _⟩
   ·refine(jg c o n hc ok hst h1 h2 hs).mono λ e w' ⟨q,q1,hb,q3⟩=>⟨(q.1,{x with fr:=x.fr-1,cs:=fZ x.cs c o n,acc:=up x.acc,got:=x.got++[N8 q.1],pg:=q.2.1,kg:=q.2.2,a:=x.a+1}),q1,?_,q3⟩
    have hN:=hat.hN
    have hgN:=hg.hN
    have hb1:(N8 q.1==1)=q.1:=by cases q.1<;>rfl
    have hb2:N8 q.1<=x.L.length:=by have:=ok.two;cases q.1<;>simp only[N8]<;>(omega)
    have hlc:=kF (cs:=x.cs) (c:=c) (bM:=o) (new:=n)
    have hgo:fD g {x with fr:=x.fr-1,cs:=fZ x.cs c o n,acc:=up x.acc,got:=x.got++[N8 q.1],pg:=q.2.1,kg:=q.2.2,a:=x.a+1} (K q.1):=hat.now (v:=N8 q.1) (by omega) (λ L=>by have:=Wk.xc (L:=L) (c:=c) (o:=o) (n:=n) (k:=K) (N8 q.1);rw[hb1] at this;exact this) (.nV c o n K x.mm q.1 hb) hst rfl rfl rfl rfl rfl rfl rfl rfl rfl rfl
    refine⟨hgo,⟨ok.fit,λ v hv=>(ok.nd v hv).mono (Nat.le_refl _) (by show _<=(fZ x.cs c o n).length;omega),λ v hv=>?_,λ v hv=>?_,ok.made,ok.two,ok.lL,by show(fZ x.cs c o n).length<=_;rw[hlc];exact ok.lc,?_,?_,ok.lm,ok.lk,ok.le,?_,ok.ys,ok.gen0,ok.ms,ok.m1⟩,by simp,by show _<=(fZ x.cs c o n).length;omega,bH _⟩
    ·have hv':v∈fZ x.cs c o n:=hv
     unfold fZ at hv'
     split at hv'
     ·rcases List.mem_or_eq_of_mem_set hv' with h|h
      ·exact ok.cs v h
      ·rw[h];exact hn
     ·exact ok.cs v hv'
    ·rcases List.mem_append.1 hv with hv|hv
     ·exact ok.got v hv
     ·rw[List.mem_singleton.1 hv];exact hb2
    ·show(x.got++[N8 q.1]).length<=_
     rw[List.length_append,List.length_cons,List.length_nil];omega
    ·show x.a+1<=(x.got++[N8 q.1]).length
     have:=ok.la
     rw[List.length_append,List.length_cons,List.length_nil];omega
    ·show x.fr-1<=1
     have:=ok.fr;omega
end
end

end Go.Proofs.YtadnboagdhcedaaGreatDoor
