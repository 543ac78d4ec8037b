/- Executions of the reference: cas. -/
import Derived.Test.YtbajmaoegmbfgaaGreatGTt3

set_option linter.unusedSimpArgs false
set_option linter.unusedVariables false
namespace Go.Ct
section
def R8(b:Bool):Int:=if b=true then 1 else 0
theorem iT(l:List Int)(v:Int):(l++[v]).getD l.length 0=v:=by rw[lB,List.getElem?_append_right (Nat.le_refl _)];simp
end
end Go.Ct
namespace Go.Proofs.YtbajmaoegmbfgaaGreat
section
open Go Go.RowKit Go.Ct
section
variable{k:Cl}{bx bm:Nat}{x:XS}{dn:Bool}{rs:Rs}{D:List Nat}{A:Fr}{w:World}
theorem vi(c o n:Int)(ok:x.Ok)(h:x.st=true)(hs:SF w D (xH k bx bm x dn rs) A [] (xW x) w):Calls Tryz.prog 212 #[.pointer (some ⟨bx,0,none⟩),.int .i64 c,.int .i64 o,.int .i64 n] w λ e w'=>∃q:Unit,e=.returned (.bool false)/\True/\SF w D (xH k bx bm x dn rs) [] [] (xW x) w':=by
 refine enter Tryz.func212 Tryz.ntmps212 rfl rfl (cK hs) ?_
 simp only[cN]
 all_goals (refine dC ?_;refine jN ?_;refine qA ?_;refine bO ?_;refine aC (cM (hs:=xH k bx bm x dn rs) (os:=xW x) (hc:=λ w hs=>Pe ⟨2,c,o,n⟩ ok h hs)) (λ x18 h18=>?_);refine No ?_;refine J8 ?_;refine lW ?_;refine aH ?_)
 all_goals
 refine bG (λ c21=>?_) (λ c21=>?_)
 ·exact nv c21
 ·all_goals try (exact absurd (by assumption) (by decide:¬(true=false)))
  all_goals (refine lG ?_;refine fL [0,1,2,3,4,5,6,7,8,9,10,11,12,13,14,15,16,17,18] ?_;refine iP ?_)
  all_goals ((refine aQ ?_))
  all_goals (refine fK ?_;refine aQ ?_)
  all_goals (refine dL ?_)
  all_goals (refine xb ?_;refine xc ?_;(refine dL ?_);refine J74 ?_;refine w9 ?_;refine J7 ?_)
  all_goals
   refine aU Tryz.results212 (λ w hw=>?_)
   exact⟨(),rfl,trivial,hw.aS⟩
theorem tc(c o n:Int)(ok:x.Ok)(h:x.st=false)(h1:¬x.a<x.got.length)(h2:x.fr=0)(hs:SF w D (xH k bx bm x dn rs) A [] (xW x) w):Calls Tryz.prog 212 #[.pointer (some ⟨bx,0,none⟩),.int .i64 c,.int .i64 o,.int .i64 n] w λ e w'=>∃q:Unit,e=.returned (.bool false)/\True/\SF w D (xH k bx bm {x with st:=true,nx:=⟨2,c,o,n⟩} dn rs) [] [] (xW {x with st:=true,nx:=⟨2,c,o,n⟩}) w':=by
 refine enter Tryz.func212 Tryz.ntmps212 rfl rfl (cK hs) ?_
 simp only[cN]
 all_goals (refine dC ?_;refine jN ?_;refine qA ?_;refine bO ?_;refine aC (cM (hs:=xH k bx bm x dn rs) (os:=xW x) (hc:=λ w hs=>Ob ⟨2,c,o,n⟩ ok h h1 h2 hs)) (λ x18 h18=>?_);refine No ?_;refine J8 ?_;refine lW ?_;refine aH ?_)
 all_goals
 refine bG (λ c21=>?_) (λ c21=>?_)
 ·exact nv c21
 ·all_goals try (exact absurd (by assumption) (by decide:¬(true=false)))
  all_goals (refine lG ?_;refine fL [0,1,2,3,4,5,6,7,8,9,10,11,12,13,14,15,16,17,18] ?_;refine iP ?_)
  all_goals ((refine aQ ?_))
  all_goals (refine fK ?_;refine aQ ?_)
  all_goals (refine dL ?_)
  all_goals (refine xb ?_;refine xc ?_;(refine dL ?_);refine J74 ?_;refine w9 ?_;refine J7 ?_)
  all_goals
   refine aU Tryz.results212 (λ w hw=>?_)
   exact⟨(),rfl,trivial,hw.aS⟩
theorem Lo(c o n:Int)(ok:x.Ok)(h:x.st=false)(h1:x.a<x.got.length)(hs:SF w D (xH k bx bm x dn rs) A [] (xW x) w):Calls Tryz.prog 212 #[.pointer (some ⟨bx,0,none⟩),.int .i64 c,.int .i64 o,.int .i64 n] w λ e w'=>∃q:Unit,e=.returned (.bool (x.got.getD x.a 0==1))/\True/\SF w D (xH k bx bm {x with a:=x.a+1} dn rs) [] [] (xW {x with a:=x.a+1}) w':=by
 have hg:=ok.lg
 refine enter Tryz.func212 Tryz.ntmps212 rfl rfl (cK hs) ?_
 simp only[cN]
 all_goals (refine dC ?_;refine jN ?_;refine qA ?_;refine bO ?_;refine aC (cM (hs:=xH k bx bm x dn rs) (os:=xW x) (hc:=λ w hs=>Ix ⟨2,c,o,n⟩ ok h h1 hs)) (λ x18 h18=>?_);refine No ?_;refine J8 ?_;refine lW ?_;refine aH ?_)
 all_goals
 refine bG (λ c21=>?_) (λ c21=>?_)
 ·exact nv c21
 ·all_goals try (exact absurd (by assumption) (by decide:¬(true=false)))
  all_goals (refine lG ?_;refine fL [0,1,2,3,4,5,6,7,8,9,10,11,12,13,14,15,16,17,18] ?_;refine iP ?_)
  all_goals (refine dL ?_)
  all_goals (refine fK ?_;refine aQ ?_)
  all_goals ((refine aQ ?_))
  all_goals (refine xb ?_;refine xc ?_;((refine cH (i:=13) (hq:=(gJ (m:=x.a+1) (n:=1) rf rf (by omega) (by omega))) (h:=?_)));((refine bS (i:=14) (hq:=(eK (m:=x.got.length) (k:=x.a+1-1) (lst:=x.got) rf rf gK cG (.own .head) (by omega) (by omega))) (h:=?_)));((refine bS (i:=15) (hq:=(fO (q:=x.a+1-1) (lst:=x.got) rf cG (.own .head) (by omega))) (h:=?_)));refine w9 ?_;refine J7 ?_)
  all_goals
   refine aU Tryz.results212 (λ w hw=>?_)
   exact⟨(),by rw[Nat.add_sub_cancel];rfl,trivial,hw.aS⟩
theorem li(c o n:Int)(hc:c<=9223372036854775807)(ok:x.Ok)(h:x.st=false)(h1:¬x.a<x.got.length)(h2:¬x.fr=0)(hs:SF w D (xH k bx bm x dn rs) A [] (xW x) w):Calls Tryz.prog 212 #[.pointer (some ⟨bx,0,none⟩),.int .i64 c,.int .i64 o,.int .i64 n] w λ e w'=>∃q:Bool×(Option Addr×Nat),e=.returned (.bool q.1)/\(q.1=true↔kR x.cs c o)/\SF w D (xH k bx bm {x with fr:=x.fr-1,cs:=fG x.cs c o n,acc:=up x.acc,got:=x.got++[R8 q.1],pg:=q.2.1,kg:=q.2.2,a:=x.a+1} dn rs) [] [] (xW {x with fr:=x.fr-1,cs:=fG x.cs c o n,acc:=up x.acc,got:=x.got++[R8 q.1],pg:=q.2.1,kg:=q.2.2,a:=x.a+1}) w':=by
  have hg:=ok.lg
  have ha:=ok.la
  have hlc:=ok.lc
  refine enter Tryz.func212 Tryz.ntmps212 rfl rfl (cK hs) ?_
  simp only[cN]
  all_goals (refine dC ?_;refine jN ?_;refine qA ?_;refine bO ?_;refine aC (cM (hs:=xH k bx bm x dn rs) (os:=xW x) (hc:=λ w hs=>Jx ⟨2,c,o,n⟩ ok h h1 h2 hs)) (λ x18 h18=>?_);refine No ?_;refine J8 ?_;refine lW ?_;refine aH ?_)
  all_goals
   refine bG (λ c21=>?_) (λ c21=>?_)
   · all_goals try (exact absurd (by assumption) (by decide:¬(true=false)))
     all_goals (refine H5 ?_;refine kY ?_;refine qA ?_;refine aA ?_;refine aC (cM (V:=.bool) (hc:=λ w hs=>uv (L:=x.L) (cs:=x.cs) hs c o n hc (by omega))) (λ x29 h29=>?_);refine aH ?_)
     all_goals
      refine bG (λ c29=>?_) (λ c29=>?_)
      · all_goals try (exact absurd (by assumption) (by decide:¬(true=false)))
        all_goals
         have hv:(1:Int)=R8 x29:=by rw[c29];rfl
        all_goals (refine eR ?_;refine J1 ?_;refine dX [(0,[]),(1,[]),(2,[]),(3,[]),(4,[]),(5,[]),(6,[]),(9,[]),(10,[]),(11,[]),(12,[]),(13,[]),(7,[5,12]),(8,[12]),(14,[]),(15,[]),(16,[]),(17,[]),(18,[]),(19,[])] ?_;refine iP ?_;refine Yj ?_;refine Qh ?_;refine cH (i:=13) (hq:=(jS (m:=x.a) (n:=1) rf rf (by omega))) (h:=?_);refine bL (h:=λ x37=>?_);((refine cL (i:=8) (hq:=(aM.eJ (sL (l:=x.got) (m:=x.got.length) rf rf .head rfl fin jf gK (by omega)) dU)) (h:=λ x38=>?_);try (refine cW (λ h38=>?_))));refine J4 ?_;refine jQ (i:=16) (hq:=(by first|exact dR λ _=>bJ rf bQ wn rf cG rf rf eE|exact(dR λ _=>bJ rf bQ wn rf cG rf xX eE)|exact(dR λ _=>aK rf bQ rf rf cD rf eE)|exact(aM.aZ (cS rf rf cG dV om) dU)|exact(aM.aZ (cU rf rf cG dV om) dU)|exact(aM.aZ (o_storePv rf rf cG dV om) dU)|exact(aM.aZ (o_storeP rf rf cD dV om) dU))) (h:=λ _=>?_);refine J4 ?_;refine jQ (i:=19) (hq:=(by first|exact dR λ _=>bJ rf bQ wn rf cG rf rf eE|exact(dR λ _=>bJ rf bQ wn rf cG rf xX eE)|exact(dR λ _=>aK rf bQ rf rf cD rf eE)|exact(aM.aZ (cS rf rf cG dV om) dU)|exact(aM.aZ (cU rf rf cG dV om) dU)|exact(aM.aZ (o_storePv rf rf cG dV om) dU)|exact(aM.aZ (o_storeP rf rf cD dV om) dU))) (h:=λ _=>?_);refine eC ?_;refine aW ?_;refine fL [0,1,2,3,4,5,6,7,8,9,10,11,12,13,14,15,16,17,18] ?_;refine iP ?_)
        all_goals ((refine aQ ?_))
        all_goals (refine fK ?_;refine aQ ?_)
        all_goals ((refine aQ ?_))
        all_goals (refine xb ?_;refine xc ?_;((refine cH (i:=13) (hq:=(gJ (m:=x.a+1) (n:=1) rf rf (by omega) (by omega))) (h:=?_)));((refine bS (i:=14) (hq:=(eK (m:=x.got.length+1) (k:=x.a+1-1) rf rf gK cG (.own .head) (by omega) (by rw[List.length_append,List.length_cons,List.length_nil];omega))) (h:=?_)));((refine bS (i:=15) (hq:=(fO (q:=x.a+1-1) rf cG (.own .head) (by rw[List.length_append,List.length_cons,List.length_nil];omega))) (h:=?_)));refine w9 ?_;refine J7 ?_)
        all_goals
         refine aU Tryz.results212 (λ w hw=>?_)
         rw[hv] at hw
         rw[show x.got.length+1=(x.got++[R8 x29]).length by simp] at hw
         exact⟨(x29,x38),by rw[show x.a+1-1=x.got.length by omega,iT,c29];rfl,h29,hw.aS⟩
      · all_goals try (exact absurd (by assumption) (by decide:¬(true=false)))
        all_goals
         have hv:(0:Int)=R8 x29:=by rw[c29];rfl
        all_goals (refine bD ?_;refine dX [(0,[]),(1,[]),(2,[]),(3,[]),(4,[]),(5,[]),(6,[]),(9,[]),(10,[]),(11,[]),(12,[]),(13,[]),(7,[5,12]),(8,[12]),(14,[]),(15,[]),(16,[]),(17,[]),(18,[]),(19,[])] ?_;refine iP ?_;refine Yj ?_;refine Qh ?_;refine cH (i:=13) (hq:=(jS (m:=x.a) (n:=1) rf rf (by omega))) (h:=?_);refine bL (h:=λ x37=>?_);((refine cL (i:=8) (hq:=(aM.eJ (sL (l:=x.got) (m:=x.got.length) rf rf .head rfl fin jf gK (by omega)) dU)) (h:=λ x38=>?_);try (refine cW (λ h38=>?_))));refine J4 ?_;refine jQ (i:=16) (hq:=(by first|exact dR λ _=>bJ rf bQ wn rf cG rf rf eE|exact(dR λ _=>bJ rf bQ wn rf cG rf xX eE)|exact(dR λ _=>aK rf bQ rf rf cD rf eE)|exact(aM.aZ (cS rf rf cG dV om) dU)|exact(aM.aZ (cU rf rf cG dV om) dU)|exact(aM.aZ (o_storePv rf rf cG dV om) dU)|exact(aM.aZ (o_storeP rf rf cD dV om) dU))) (h:=λ _=>?_);refine J4 ?_;refine jQ (i:=19) (hq:=(by first|exact dR λ _=>bJ rf bQ wn rf cG rf rf eE|exact(dR λ _=>bJ rf bQ wn rf cG rf xX eE)|exact(dR λ _=>aK rf bQ rf rf cD rf eE)|exact(aM.aZ (cS rf rf cG dV om) dU)|exact(aM.aZ (cU rf rf cG dV om) dU)|exact(aM.aZ (o_storePv rf rf cG dV om) dU)|exact(aM.aZ (o_storeP rf rf cD dV om) dU))) (h:=λ _=>?_);refine eC ?_;refine aW ?_;refine fL [0,1,2,3,4,5,6,7,8,9,10,11,12,13,14,15,16,17,18] ?_;refine iP ?_)
        all_goals ((refine aQ ?_))
        all_goals (refine fK ?_;refine aQ ?_)
        all_goals ((refine aQ ?_))
        all_goals (refine xb ?_;refine xc ?_;((refine cH (i:=13) (hq:=(gJ (m:=x.a+1) (n:=1) rf rf (by omega) (by omega))) (h:=?_)));((refine bS (i:=14) (hq:=(eK (m:=x.got.length+1) (k:=x.a+1-1) rf rf gK cG (.own .head) (by omega) (by rw[List.length_append,List.length_cons,List.length_nil];omega))) (h:=?_)));((refine bS (i:=15) (hq:=(fO (q:=x.a+1-1) rf cG (.own .head) (by rw[List.length_append,List.length_cons,List.length_nil];omega))) (h:=?_)));refine w9 ?_;refine J7 ?_)
        all_goals
         refine aU Tryz.results212 (λ w hw=>?_)
         rw[hv] at hw
         rw[show x.got.length+1=(x.got++[R8 x29]).length by simp] at hw
         exact⟨(x29,x38),by rw[show x.a+1-1=x.got.length by omega,iT,c29];rfl,h29,hw.aS⟩
   · exact nv c21
end
end

/- Executions of the reference: nodes, allocations, cells, generations. -/
section
open Go Go.RowKit Go.Ct
section
variable{k:Cl}{bx bm:Nat}{x:XS}{dn:Bool}{rs:Rs}{D:List Nat}{A:Fr}{w:World}
theorem gA(r:Int)(hr:r<=9223372036854775807)(ok:x.Ok)(hs:SF w D (xH k bx bm x dn rs) A [] (xW x) w):Calls Tryz.prog 211 #[.pointer (some ⟨bx,0,none⟩),.int .i64 r] w λ e w'=>∃q:Unit,e=.returned (aD x.L r).nd.v/\True/\SF w D (xH k bx bm x dn rs) [] [] (xW x) w':=by
 have hl:=ok.lL
 refine enter Tryz.func211 Tryz.ntmps211 rfl rfl (cK hs) ?_
 simp only[cN]
 all_goals (refine J0 ?_;refine aJ (λ x4=>?_);refine aH ?_;refine kY ?_;refine aA ?_;refine aC (cM (hc:=λ w hs=>mb (L:=x.L) (cs:=x.cs) hs r hr (by omega))) (λ x10 h10=>?_);refine J5 ?_)
 all_goals
 refine bE Tryz.results211 (λ w hw=>?_)
 exact⟨(),rfl,trivial,hw.aS⟩
theorem ik{n:Nd}(i:Int)(h:x.st=true)(hs:SF w D (xH k bx bm x dn rs) A [] (xW x) w):Calls Tryz.prog 215 #[.pointer (some ⟨bx,0,none⟩),n.v,.int .i64 i] w λ e w'=>∃q:Unit,e=.returned (.int .i64 0)/\True/\SF w D (xH k bx bm x dn rs) [] [] (xW x) w':=by
 refine enter Tryz.func215 Tryz.ntmps215 rfl rfl (cK hs) ?_
 simp only[cN]
 simp only[Nd.v]
 all_goals (refine J0 ?_;refine bW (λ x4=>?_);refine jM ?_;refine kY ?_;refine aH ?_)
 all_goals
 refine bG (λ c10=>?_) (λ c10=>?_)
 ·all_goals refine dC ?_
  all_goals
   refine aU Tryz.results215 (λ w hw=>?_)
   exact⟨(),rfl,trivial,hw.aS⟩
 ·all_goals
   exact absurd (h.symm.trans c10) (by decide)
  all_goals (refine lG ?_;refine aW ?_;refine fL [0,1,2,3,4,5,6,7,8,9] ?_;refine qC ?_;refine mP ?_;refine kQ ?_;refine eC ?_)
  all_goals
   refine bG (λ c20=>?_) (λ c20=>?_)
   ·try exact nv c20
    all_goals (refine dX [(0,[]),(1,[]),(2,[]),(3,[]),(4,[]),(5,[]),(6,[]),(7,[]),(8,[]),(9,[]),(10,[]),(11,[4]),(12,[4]),(13,[]),(14,[]),(15,[]),(16,[])] ?_;refine aQ ?_;refine qC ?_;refine bR ?_;refine aQ ?_;((refine cL (i:=11) (hq:=(NO)) (h:=λ x32=>?_);try (refine cW (λ h32=>?_))));refine bL (h:=λ x33=>?_);((refine kJ (h:=λ x34=>?_);try (refine cW (λ h34=>?_))));refine iy ?_;refine kY ?_;refine sC ?_;refine D5 ?_;refine aW ?_;refine fL [0,1,2,3,4,5,6,7,8,9,10,11] ?_;refine qC ?_;refine uZ ?_;refine Hq ?_;refine J7 ?_)
    all_goals
    refine aU Tryz.results215 (λ w hw=>?_)
    exact⟨(),rfl,trivial,hw.aS⟩
   ·try exact nv c20
    all_goals (refine Qi ?_;refine sC ?_;refine D5 ?_;refine aW ?_;refine fL [0,1,2,3,4,5,6,7,8,9,10,11] ?_;refine qC ?_;refine uZ ?_;refine Hq ?_;refine J7 ?_)
    all_goals
    refine aU Tryz.results215 (λ w hw=>?_)
    exact⟨(),rfl,trivial,hw.aS⟩
theorem alloc_old{n:Nd}(i:Int)(ok:x.Ok)(h:x.st=false)(h1:x.m<x.made.length)(hl:x.made.length<=274877906944)(hs:SF w D (xH k bx bm x dn rs) A [] (xW x) w):Calls Tryz.prog 215 #[.pointer (some ⟨bx,0,none⟩),n.v,.int .i64 i] w λ e w'=>∃q:Unit,e=.returned (.int .i64 (x.made.getD x.m 0))/\True/\SF w D (xH k bx bm {x with m:=x.m+1} dn rs) [] [] (xW {x with m:=x.m+1}) w':=by
 refine enter Tryz.func215 Tryz.ntmps215 rfl rfl (cK hs) ?_
 simp only[cN]
 simp only[Nd.v]
 all_goals (refine J0 ?_;refine bW (λ x4=>?_);refine jM ?_;refine kY ?_;refine aH ?_)
 all_goals
 refine bG (λ c10=>?_) (λ c10=>?_)
 ·all_goals try (exfalso;omega)
  all_goals
   exact absurd (h.symm.trans c10) (by decide)
  all_goals refine dC ?_
  all_goals
   refine aU Tryz.results215 (λ w hw=>?_)
   exact⟨(),by rw[Nat.add_sub_cancel];rfl,trivial,hw.aS⟩
 ·all_goals try (exfalso;omega)
  all_goals (refine lG ?_;refine aW ?_;refine fL [0,1,2,3,4,5,6,7,8,9] ?_;refine qC ?_;refine mP ?_;refine kQ ?_;refine eC ?_)
  all_goals
   refine bG (λ c20=>?_) (λ c20=>?_)
   ·all_goals try (exfalso;omega)
    all_goals (refine dX [(0,[]),(1,[]),(2,[]),(3,[]),(4,[]),(5,[]),(6,[]),(7,[]),(8,[]),(9,[]),(10,[]),(11,[4]),(12,[4]),(13,[]),(14,[]),(15,[]),(16,[])] ?_;refine aQ ?_;refine qC ?_;refine bR ?_;refine aQ ?_;((refine cL (i:=11) (hq:=(NO)) (h:=λ x32=>?_);try (refine cW (λ h32=>?_))));refine bL (h:=λ x33=>?_);((refine kJ (h:=λ x34=>?_);try (refine cW (λ h34=>?_))));refine J4 ?_;refine jQ (i:=16) (hq:=(by first|exact dR λ _=>bJ rf bQ wn rf cG rf rf eE|exact(dR λ _=>bJ rf bQ wn rf cG rf xX eE)|exact(dR λ _=>aK rf bQ rf rf cD rf eE)|exact(aM.aZ (cS rf rf cG dV om) dU)|exact(aM.aZ (cU rf rf cG dV om) dU)|exact(aM.aZ (o_storePv rf rf cG dV om) dU)|exact(aM.aZ (o_storeP rf rf cD dV om) dU))) (h:=λ _=>?_);refine eC ?_;refine kY ?_;refine aB (jS (m:=x.m) (n:=1) rf rf (by omega)) rfl ?_;refine D2 ?_;refine bZ (by first|exact dR λ _=>bJ rf bQ wn rf cG rf rf eE|exact(dR λ _=>bJ rf bQ wn rf cG rf xX eE)|exact(dR λ _=>aK rf bQ rf rf cD rf eE)|exact(aM.aZ (cS rf rf cG dV om) dU)|exact(aM.aZ (cU rf rf cG dV om) dU)|exact(aM.aZ (o_storePv rf rf cG dV om) dU)|exact(aM.aZ (o_storeP rf rf cD dV om) dU)) (λ _=>?_);refine Hs ?_;refine fL [0,1,2,3,4,5,6,7,8,9,10,11] ?_;refine qC ?_;refine cH (i:=8) (hq:=(gJ (m:=x.m+1) (n:=1) rf rf (by omega) (by omega))) (h:=?_);refine bS (i:=9) (hq:=(eK (m:=x.made.length) (k:=x.m+1-1) (lst:=x.made) rf rf gK cG (.own (.tail .head)) (by omega) (by omega))) (h:=?_);refine bS (i:=10) (hq:=(fO (q:=x.m+1-1) (lst:=x.made) rf cG (.own (.tail .head)) (by omega))) (h:=?_);refine J7 ?_)
    all_goals
    refine aU Tryz.results215 (λ w hw=>?_)
    exact⟨(),by rw[Nat.add_sub_cancel];rfl,trivial,hw.aS⟩
   ·all_goals try (exfalso;omega)
    all_goals (refine Qi ?_;refine aB (jS (m:=x.m) (n:=1) rf rf (by omega)) rfl ?_;refine D2 ?_;refine bZ (by first|exact dR λ _=>bJ rf bQ wn rf cG rf rf eE|exact(dR λ _=>bJ rf bQ wn rf cG rf xX eE)|exact(dR λ _=>aK rf bQ rf rf cD rf eE)|exact(aM.aZ (cS rf rf cG dV om) dU)|exact(aM.aZ (cU rf rf cG dV om) dU)|exact(aM.aZ (o_storePv rf rf cG dV om) dU)|exact(aM.aZ (o_storeP rf rf cD dV om) dU)) (λ _=>?_);refine Hs ?_;refine fL [0,1,2,3,4,5,6,7,8,9,10,11] ?_;refine qC ?_;refine cH (i:=8) (hq:=(gJ (m:=x.m+1) (n:=1) rf rf (by omega) (by omega))) (h:=?_);refine bS (i:=9) (hq:=(eK (m:=x.made.length) (k:=x.m+1-1) (lst:=x.made) rf rf gK cG (.own (.tail .head)) (by omega) (by omega))) (h:=?_);refine bS (i:=10) (hq:=(fO (q:=x.m+1-1) (lst:=x.made) rf cG (.own (.tail .head)) (by omega))) (h:=?_);refine J7 ?_)
    all_goals
    refine aU Tryz.results215 (λ w hw=>?_)
    exact⟨(),by rw[Nat.add_sub_cancel];rfl,trivial,hw.aS⟩
theorem Wp{n:Nd}{xs:List Int}{ys:List Pr}(i:Int)(ok:x.Ok)(h:x.st=false)(h1:x.m=x.made.length)(hl:x.made.length<=137438953472)(hLl:x.L.length<=274877906900)(hcl:x.cs.length<=274877906900)(e1:n.brN=xs.length)(e2:n.prN=ys.length)(hx:xs.length<=274877906944)(hy:ys.length<=274877906944)(hs:SF w D (xH k bx bm x dn rs) [(n.brA,aG xs),(n.prA,dW ys)] [] (xW x) w):Calls Tryz.prog 215 #[.pointer (some ⟨bx,0,none⟩),n.v,.int .i64 i] w λ e w'=>∃q:AX×(Option Addr×Nat),e=.returned (.int .i64 ((x.L.length+1:Nat):Int))/\True /\
   SF w D (xH k bx bm {x with L:=x.L++[gI n xs ys x.cs.length q.1],cs:=cY n.kind x.cs i,pn:=q.1.pn,cn:=q.1.cn,pc:=q.1.pc,cc:=q.1.cc,made:=x.made++[((x.L.length+1:Nat):Int)],pm:=q.2.1,km:=q.2.2,m:=x.m+1} dn rs) [] (gI n xs ys x.cs.length q.1).fr (xW {x with L:=x.L++[gI n xs ys x.cs.length q.1],cs:=cY n.kind x.cs i,pn:=q.1.pn,cn:=q.1.cn,pc:=q.1.pc,cc:=q.1.cc,made:=x.made++[((x.L.length+1:Nat):Int)],pm:=q.2.1,km:=q.2.2,m:=x.m+1}) w':=by
 refine enter Tryz.func215 Tryz.ntmps215 rfl rfl (cK hs) ?_
 simp only[cN]
 simp only[Nd.v]
 all_goals (refine J0 ?_;refine bW (λ x4=>?_);refine jM ?_;refine kY ?_;refine aH ?_)
 all_goals
 refine bG (λ c10=>?_) (λ c10=>?_)
 ·all_goals try (exfalso;omega)
  all_goals
   exact absurd (h.symm.trans c10) (by decide)
  all_goals refine dC ?_
  all_goals
   refine aU Tryz.results215 (λ w hw=>?_)
   rw[show x.made.length+1=(x.made++[((x.L.length+1:Nat):Int)]).length by simp] at hw
   exact⟨(x32,x34),by rw[show x.m+1-1=x.made.length by omega,iT];rfl,trivial,hw.ret (List.Sublist.cons _ (List.Sublist.refl _)) (aV.gG λ f hf=>List.mem_cons_of_mem _ (List.mem_append_left _ hf)) (List.Sublist.refl _)⟩
 ·all_goals try (exfalso;omega)
  all_goals (refine lG ?_;refine aW ?_;refine fL [0,1,2,3,4,5,6,7,8,9] ?_;refine qC ?_;refine mP ?_;refine kQ ?_;refine eC ?_)
  all_goals
   refine bG (λ c20=>?_) (λ c20=>?_)
   ·all_goals try (exfalso;omega)
    all_goals (refine dX [(0,[]),(1,[]),(2,[]),(3,[]),(4,[]),(5,[]),(6,[]),(7,[]),(8,[]),(9,[]),(10,[]),(11,[4]),(12,[4]),(13,[]),(14,[]),(15,[]),(16,[])] ?_;refine aQ ?_;refine qC ?_;refine bR ?_;refine aQ ?_;refine bA (i:=11) (hq:=(cM (A0:=[(n.brA,aG xs),(n.prA,dW ys)]) (hc:=λ w hs=>Ex (n:=n) (L:=x.L) (cs:=x.cs) i hs e1 e2 hx hy (by omega) (by omega)))) (h:=λ x32 h32=>?_);refine bL (h:=λ x33=>?_);((refine cL (i:=13) (hq:=(aM.eJ (sL (l:=x.made) (m:=x.made.length) rf rf (.tail .head) rfl fin jf gK (by omega)) dU)) (h:=λ x34=>?_);try (refine cW (λ h34=>?_))));refine J4 ?_;refine jQ (i:=16) (hq:=(by first|exact dR λ _=>bJ rf bQ wn rf cG rf rf eE|exact(dR λ _=>bJ rf bQ wn rf cG rf xX eE)|exact(dR λ _=>aK rf bQ rf rf cD rf eE)|exact(aM.aZ (cS rf rf cG dV om) dU)|exact(aM.aZ (cU rf rf cG dV om) dU)|exact(aM.aZ (o_storePv rf rf cG dV om) dU)|exact(aM.aZ (o_storeP rf rf cD dV om) dU))) (h:=λ _=>?_);refine eC ?_;refine kY ?_;refine aB (jS (m:=x.m) (n:=1) rf rf (by omega)) rfl ?_;refine D2 ?_;refine bZ (by first|exact dR λ _=>bJ rf bQ wn rf cG rf rf eE|exact(dR λ _=>bJ rf bQ wn rf cG rf xX eE)|exact(dR λ _=>aK rf bQ rf rf cD rf eE)|exact(aM.aZ (cS rf rf cG dV om) dU)|exact(aM.aZ (cU rf rf cG dV om) dU)|exact(aM.aZ (o_storePv rf rf cG dV om) dU)|exact(aM.aZ (o_storeP rf rf cD dV om) dU)) (λ _=>?_);refine Hs ?_;refine fL [0,1,2,3,4,5,6,7,8,9,10,11] ?_;refine qC ?_;refine cH (i:=8) (hq:=(gJ (m:=x.m+1) (n:=1) rf rf (by omega) (by omega))) (h:=?_);refine bS (i:=9) (hq:=(eK (m:=x.made.length+1) (k:=x.m+1-1) rf rf gK cG (.own (.tail .head)) (by omega) (by rw[List.length_append,List.length_cons,List.length_nil];omega))) (h:=?_);refine bS (i:=10) (hq:=(fO (q:=x.m+1-1) rf cG (.own (.tail .head)) (by rw[List.length_append,List.length_cons,List.length_nil];omega))) (h:=?_);refine J7 ?_)
    all_goals
    refine aU Tryz.results215 (λ w hw=>?_)
    rw[show x.made.length+1=(x.made++[((x.L.length+1:Nat):Int)]).length by simp] at hw
    exact⟨(x32,x34),by rw[show x.m+1-1=x.made.length by omega,iT];rfl,trivial,hw.ret (List.Sublist.cons _ (List.Sublist.refl _)) (aV.gG λ f hf=>List.mem_cons_of_mem _ (List.mem_append_left _ hf)) (List.Sublist.refl _)⟩
   ·all_goals try (exfalso;omega)
    all_goals (refine Qi ?_;refine aB (jS (m:=x.m) (n:=1) rf rf (by omega)) rfl ?_;refine D2 ?_;refine bZ (by first|exact dR λ _=>bJ rf bQ wn rf cG rf rf eE|exact(dR λ _=>bJ rf bQ wn rf cG rf xX eE)|exact(dR λ _=>aK rf bQ rf rf cD rf eE)|exact(aM.aZ (cS rf rf cG dV om) dU)|exact(aM.aZ (cU rf rf cG dV om) dU)|exact(aM.aZ (o_storePv rf rf cG dV om) dU)|exact(aM.aZ (o_storeP rf rf cD dV om) dU)) (λ _=>?_);refine Hs ?_;refine fL [0,1,2,3,4,5,6,7,8,9,10,11] ?_;refine qC ?_;refine cH (i:=8) (hq:=(gJ (m:=x.m+1) (n:=1) rf rf (by omega) (by omega))) (h:=?_);refine bS (i:=9) (hq:=(eK (m:=x.made.length+1) (k:=x.m+1-1) rf rf gK cG (.own (.tail .head)) (by omega) (by rw[List.length_append,List.length_cons,List.length_nil];omega))) (h:=?_);refine bS (i:=10) (hq:=(fO (q:=x.m+1-1) rf cG (.own (.tail .head)) (by rw[List.length_append,List.length_cons,List.length_nil];omega))) (h:=?_);refine J7 ?_)
    all_goals
    refine aU Tryz.results215 (λ w hw=>?_)
    rw[show x.made.length+1=(x.made++[((x.L.length+1:Nat):Int)]).length by simp] at hw
    exact⟨(x32,x34),by rw[show x.m+1-1=x.made.length by omega,iT];rfl,trivial,hw.ret (List.Sublist.cons _ (List.Sublist.refl _)) (aV.gG λ f hf=>List.mem_cons_of_mem _ (List.mem_append_left _ hf)) (List.Sublist.refl _)⟩
end
end

end Go.Proofs.YtbajmaoegmbfgaaGreat
