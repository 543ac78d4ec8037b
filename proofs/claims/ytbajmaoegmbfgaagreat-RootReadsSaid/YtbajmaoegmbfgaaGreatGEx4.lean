/- Executions of the reference: cells, generations. -/
import Derived.Test.YtbajmaoegmbfgaaGreatGEx2

set_option linter.unusedSimpArgs false
set_option linter.unusedVariables false
namespace Go.Proofs.YtbajmaoegmbfgaaGreat
section
open Go Go.RowKit Go.Ct
theorem M0:dH Tryz.prog 27=some (.int .i64 0):=by kernel_rfl
theorem Fk:eM Tryz.prog 151 27 [.int .i64 0]:=mH (by kernel_rfl) M0 rfl
section
variable{k:Cl}{bx bm:Nat}{x:XS}{dn:Bool}{rs:Rs}{D:List Nat}{A:Fr}{w:World}
theorem lz(i:Int)(h:x.st=true)(hs:SF w D (xH k bx bm x dn rs) A [] (xW x) w):Calls Tryz.prog 228 #[.pointer (some ⟨bx,0,none⟩),.int .i64 i] w λ e w'=>∃q:Unit,e=.returned (.int .i64 0)/\True/\SF w D (xH k bx bm x dn rs) [] [] (xW x) w':=by
 refine enter Tryz.func228 Tryz.ntmps228 rfl rfl (cK hs) ?_
 simp only[cN]
 all_goals (refine H5 ?_;refine kY ?_;refine aH ?_)
 all_goals
 refine bG (λ c8=>?_) (λ c8=>?_)
 ·all_goals refine dC ?_
  all_goals
   refine aU Tryz.results228 (λ w hw=>?_)
   exact⟨(),rfl,trivial,hw.aS⟩
 ·all_goals
   exact absurd (h.symm.trans c8) (by decide)
  all_goals (refine lG ?_;refine aW ?_;refine fL [0,1,2,3,4,5,6,7,8,9] ?_;refine qC ?_;refine mP ?_;refine kQ ?_;refine eC ?_)
  all_goals
   refine bG (λ c18=>?_) (λ c18=>?_)
   ·try exact nv c18
    all_goals (refine dX [(0,[]),(1,[]),(2,[]),(3,[]),(4,[]),(5,[]),(6,[]),(7,[]),(8,[]),(9,[]),(10,[4]),(11,[4]),(12,[]),(13,[]),(14,[]),(15,[])] ?_;refine aQ ?_;refine qC ?_;refine aQ ?_;((refine cL (i:=10) (hq:=(NO)) (h:=λ x29=>?_);try (refine cW (λ h29=>?_))));refine bL (h:=λ x30=>?_);((refine kJ (h:=λ x31=>?_);try (refine cW (λ h31=>?_))));refine iy ?_;refine kY ?_;refine sC ?_;refine D5 ?_;refine aW ?_;refine fL [0,1,2,3,4,5,6,7,8,9,10,11] ?_;refine qC ?_;refine uZ ?_;refine Hq ?_;refine J7 ?_)
    all_goals
    refine aU Tryz.results228 (λ w hw=>?_)
    exact⟨(),rfl,trivial,hw.aS⟩
   ·try exact nv c18
    all_goals (refine Qi ?_;refine sC ?_;refine D5 ?_;refine aW ?_;refine fL [0,1,2,3,4,5,6,7,8,9,10,11] ?_;refine qC ?_;refine uZ ?_;refine Hq ?_;refine J7 ?_)
    all_goals
    refine aU Tryz.results228 (λ w hw=>?_)
    exact⟨(),rfl,trivial,hw.aS⟩
theorem Fs(i:Int)(h:x.st=false)(h1:x.c<x.cel.length)(hl:x.cel.length<=274877906944)(hs:SF w D (xH k bx bm x dn rs) A [] (xW x) w):Calls Tryz.prog 228 #[.pointer (some ⟨bx,0,none⟩),.int .i64 i] w λ e w'=>∃q:Unit,e=.returned (.int .i64 (x.cel.getD x.c 0))/\True/\SF w D (xH k bx bm {x with c:=x.c+1} dn rs) [] [] (xW {x with c:=x.c+1}) w':=by
 refine enter Tryz.func228 Tryz.ntmps228 rfl rfl (cK hs) ?_
 simp only[cN]
 all_goals (refine H5 ?_;refine kY ?_;refine aH ?_)
 all_goals
 refine bG (λ c8=>?_) (λ c8=>?_)
 ·all_goals try (exfalso;omega)
  all_goals
   exact absurd (h.symm.trans c8) (by decide)
  all_goals refine dC ?_
  all_goals
   refine aU Tryz.results228 (λ w hw=>?_)
   exact⟨(),by rw[Nat.add_sub_cancel];rfl,trivial,hw.aS⟩
 ·all_goals try (exfalso;omega)
  all_goals (refine lG ?_;refine aW ?_;refine fL [0,1,2,3,4,5,6,7,8,9] ?_;refine qC ?_;refine mP ?_;refine kQ ?_;refine eC ?_)
  all_goals
   refine bG (λ c18=>?_) (λ c18=>?_)
   ·all_goals try (exfalso;omega)
    all_goals (refine dX [(0,[]),(1,[]),(2,[]),(3,[]),(4,[]),(5,[]),(6,[]),(7,[]),(8,[]),(9,[]),(10,[4]),(11,[4]),(12,[]),(13,[]),(14,[]),(15,[])] ?_;refine aQ ?_;refine qC ?_;refine aQ ?_;((refine cL (i:=10) (hq:=(NO)) (h:=λ x29=>?_);try (refine cW (λ h29=>?_))));refine bL (h:=λ x30=>?_);((refine kJ (h:=λ x31=>?_);try (refine cW (λ h31=>?_))));refine J4 ?_;refine jQ (i:=15) (hq:=(by first|exact dR λ _=>bJ rf bQ wn rf cG rf rf eE|exact(dR λ _=>bJ rf bQ wn rf cG rf xX eE)|exact(dR λ _=>aK rf bQ rf rf cD rf eE)|exact(aM.aZ (cS rf rf cG dV om) dU)|exact(aM.aZ (cU rf rf cG dV om) dU)|exact(aM.aZ (o_storePv rf rf cG dV om) dU)|exact(aM.aZ (o_storeP rf rf cD dV om) dU))) (h:=λ _=>?_);refine eC ?_;refine kY ?_;refine aB (jS (m:=x.c) (n:=1) rf rf (by omega)) rfl ?_;refine D2 ?_;refine bZ (by first|exact dR λ _=>bJ rf bQ wn rf cG rf rf eE|exact(dR λ _=>bJ rf bQ wn rf cG rf xX eE)|exact(dR λ _=>aK rf bQ rf rf cD rf eE)|exact(aM.aZ (cS rf rf cG dV om) dU)|exact(aM.aZ (cU rf rf cG dV om) dU)|exact(aM.aZ (o_storePv rf rf cG dV om) dU)|exact(aM.aZ (o_storeP rf rf cD dV om) dU)) (λ _=>?_);refine Hs ?_;refine fL [0,1,2,3,4,5,6,7,8,9,10,11] ?_;refine qC ?_;refine cH (i:=8) (hq:=(gJ (m:=x.c+1) (n:=1) rf rf (by omega) (by omega))) (h:=?_);refine bS (i:=9) (hq:=(eK (m:=x.cel.length) (k:=x.c+1-1) (lst:=x.cel) rf rf gK cG (.own (.tail (.tail .head))) (by omega) (by omega))) (h:=?_);refine bS (i:=10) (hq:=(fO (q:=x.c+1-1) (lst:=x.cel) rf cG (.own (.tail (.tail .head))) (by omega))) (h:=?_);refine J7 ?_)
    all_goals
    refine aU Tryz.results228 (λ w hw=>?_)
    exact⟨(),by rw[Nat.add_sub_cancel];rfl,trivial,hw.aS⟩
   ·all_goals try (exfalso;omega)
    all_goals (refine Qi ?_;refine aB (jS (m:=x.c) (n:=1) rf rf (by omega)) rfl ?_;refine D2 ?_;refine bZ (by first|exact dR λ _=>bJ rf bQ wn rf cG rf rf eE|exact(dR λ _=>bJ rf bQ wn rf cG rf xX eE)|exact(dR λ _=>aK rf bQ rf rf cD rf eE)|exact(aM.aZ (cS rf rf cG dV om) dU)|exact(aM.aZ (cU rf rf cG dV om) dU)|exact(aM.aZ (o_storePv rf rf cG dV om) dU)|exact(aM.aZ (o_storeP rf rf cD dV om) dU)) (λ _=>?_);refine Hs ?_;refine fL [0,1,2,3,4,5,6,7,8,9,10,11] ?_;refine qC ?_;refine cH (i:=8) (hq:=(gJ (m:=x.c+1) (n:=1) rf rf (by omega) (by omega))) (h:=?_);refine bS (i:=9) (hq:=(eK (m:=x.cel.length) (k:=x.c+1-1) (lst:=x.cel) rf rf gK cG (.own (.tail (.tail .head))) (by omega) (by omega))) (h:=?_);refine bS (i:=10) (hq:=(fO (q:=x.c+1-1) (lst:=x.cel) rf cG (.own (.tail (.tail .head))) (by omega))) (h:=?_);refine J7 ?_)
    all_goals
    refine aU Tryz.results228 (λ w hw=>?_)
    exact⟨(),by rw[Nat.add_sub_cancel];rfl,trivial,hw.aS⟩
theorem ay(i:Int)(h:x.st=false)(h1:x.c=x.cel.length)(hl:x.cel.length<=137438953472)(hcl:x.cs.length<=274877906900)(hs:SF w D (xH k bx bm x dn rs) A [] (xW x) w):Calls Tryz.prog 228 #[.pointer (some ⟨bx,0,none⟩),.int .i64 i] w λ e w'=>∃q:(Option Addr×Nat)×(Option Addr×Nat),e=.returned (.int .i64 ((x.cs.length+1:Nat):Int))/\True /\
   SF w D (xH k bx bm {x with cs:=x.cs++[i],pc:=q.1.1,cc:=q.1.2,cel:=x.cel++[((x.cs.length+1:Nat):Int)],pl:=q.2.1,kl:=q.2.2,c:=x.c+1} dn rs) [] [] (xW {x with cs:=x.cs++[i],pc:=q.1.1,cc:=q.1.2,cel:=x.cel++[((x.cs.length+1:Nat):Int)],pl:=q.2.1,kl:=q.2.2,c:=x.c+1}) w':=by
 refine enter Tryz.func228 Tryz.ntmps228 rfl rfl (cK hs) ?_
 simp only[cN]
 all_goals (refine H5 ?_;refine kY ?_;refine aH ?_)
 all_goals
 refine bG (λ c8=>?_) (λ c8=>?_)
 ·all_goals try (exfalso;omega)
  all_goals
   exact absurd (h.symm.trans c8) (by decide)
  all_goals refine dC ?_
  all_goals
   refine aU Tryz.results228 (λ w hw=>?_)
   rw[show x.cel.length+1=(x.cel++[((x.cs.length+1:Nat):Int)]).length by simp] at hw
   exact⟨(x29,x31),by rw[show x.c+1-1=x.cel.length by omega,iT];rfl,trivial,hw.aS⟩
 ·all_goals try (exfalso;omega)
  all_goals (refine lG ?_;refine aW ?_;refine fL [0,1,2,3,4,5,6,7,8,9] ?_;refine qC ?_;refine mP ?_;refine kQ ?_;refine eC ?_)
  all_goals
   refine bG (λ c18=>?_) (λ c18=>?_)
   ·all_goals try (exfalso;omega)
    all_goals (refine dX [(0,[]),(1,[]),(2,[]),(3,[]),(4,[]),(5,[]),(6,[]),(7,[]),(8,[]),(9,[]),(10,[4]),(11,[4]),(12,[]),(13,[]),(14,[]),(15,[])] ?_;refine aQ ?_;refine qC ?_;refine aQ ?_;refine bA (i:=10) (hq:=(cM (hc:=λ w hs=>jE (L:=x.L) (cs:=x.cs) i hs (by omega)))) (h:=λ x29 h29=>?_);refine cL (i:=11) (hq:=((by exact Ib (λ _=>cZ (cs:=aG [((x.cs.length+1:Nat):Int)]) Fk It rfl rfl rfl rfl rfl)))) (h:=λ x30=>?_);((refine cL (i:=12) (hq:=(aM.eJ (sL (l:=x.cel) (m:=x.cel.length) rf rf (.tail (.tail .head)) rfl fin (by exact Fk) gK (by omega)) dU)) (h:=λ x31=>?_);try (refine cW (λ h31=>?_))));refine J4 ?_;refine jQ (i:=15) (hq:=(by first|exact dR λ _=>bJ rf bQ wn rf cG rf rf eE|exact(dR λ _=>bJ rf bQ wn rf cG rf xX eE)|exact(dR λ _=>aK rf bQ rf rf cD rf eE)|exact(aM.aZ (cS rf rf cG dV om) dU)|exact(aM.aZ (cU rf rf cG dV om) dU)|exact(aM.aZ (o_storePv rf rf cG dV om) dU)|exact(aM.aZ (o_storeP rf rf cD dV om) dU))) (h:=λ _=>?_);refine eC ?_;refine kY ?_;refine aB (jS (m:=x.c) (n:=1) rf rf (by omega)) rfl ?_;refine D2 ?_;refine bZ (by first|exact dR λ _=>bJ rf bQ wn rf cG rf rf eE|exact(dR λ _=>bJ rf bQ wn rf cG rf xX eE)|exact(dR λ _=>aK rf bQ rf rf cD rf eE)|exact(aM.aZ (cS rf rf cG dV om) dU)|exact(aM.aZ (cU rf rf cG dV om) dU)|exact(aM.aZ (o_storePv rf rf cG dV om) dU)|exact(aM.aZ (o_storeP rf rf cD dV om) dU)) (λ _=>?_);refine Hs ?_;refine fL [0,1,2,3,4,5,6,7,8,9,10,11] ?_;refine qC ?_;refine cH (i:=8) (hq:=(gJ (m:=x.c+1) (n:=1) rf rf (by omega) (by omega))) (h:=?_);refine bS (i:=9) (hq:=(eK (m:=x.cel.length+1) (k:=x.c+1-1) rf rf gK cG (.own (.tail (.tail .head))) (by omega) (by rw[List.length_append,List.length_cons,List.length_nil];omega))) (h:=?_);refine bS (i:=10) (hq:=(fO (q:=x.c+1-1) rf cG (.own (.tail (.tail .head))) (by rw[List.length_append,List.length_cons,List.length_nil];omega))) (h:=?_);refine J7 ?_)
    all_goals
    refine aU Tryz.results228 (λ w hw=>?_)
    rw[show x.cel.length+1=(x.cel++[((x.cs.length+1:Nat):Int)]).length by simp] at hw
    exact⟨(x29,x31),by rw[show x.c+1-1=x.cel.length by omega,iT];rfl,trivial,hw.aS⟩
   ·all_goals try (exfalso;omega)
    all_goals (refine Qi ?_;refine aB (jS (m:=x.c) (n:=1) rf rf (by omega)) rfl ?_;refine D2 ?_;refine bZ (by first|exact dR λ _=>bJ rf bQ wn rf cG rf rf eE|exact(dR λ _=>bJ rf bQ wn rf cG rf xX eE)|exact(dR λ _=>aK rf bQ rf rf cD rf eE)|exact(aM.aZ (cS rf rf cG dV om) dU)|exact(aM.aZ (cU rf rf cG dV om) dU)|exact(aM.aZ (o_storePv rf rf cG dV om) dU)|exact(aM.aZ (o_storeP rf rf cD dV om) dU)) (λ _=>?_);refine Hs ?_;refine fL [0,1,2,3,4,5,6,7,8,9,10,11] ?_;refine qC ?_;refine cH (i:=8) (hq:=(gJ (m:=x.c+1) (n:=1) rf rf (by omega) (by omega))) (h:=?_);refine bS (i:=9) (hq:=(eK (m:=x.cel.length+1) (k:=x.c+1-1) rf rf gK cG (.own (.tail (.tail .head))) (by omega) (by rw[List.length_append,List.length_cons,List.length_nil];omega))) (h:=?_);refine bS (i:=10) (hq:=(fO (q:=x.c+1-1) rf cG (.own (.tail (.tail .head))) (by rw[List.length_append,List.length_cons,List.length_nil];omega))) (h:=?_);refine J7 ?_)
    all_goals
    refine aU Tryz.results228 (λ w hw=>?_)
    rw[show x.cel.length+1=(x.cel++[((x.cs.length+1:Nat):Int)]).length by simp] at hw
    exact⟨(x29,x31),by rw[show x.c+1-1=x.cel.length by omega,iT];rfl,trivial,hw.aS⟩
theorem tw(h:x.st=true)(hs:SF w D (xH k bx bm x dn rs) A [] (xW x) w):Calls Tryz.prog 230 #[.pointer (some ⟨bx,0,none⟩)] w λ e w'=>∃q:Unit,e=.returned (.int .i64 0)/\True/\SF w D (xH k bx bm x dn rs) [] [] (xW x) w':=by
 refine enter Tryz.func230 Tryz.ntmps230 rfl rfl (cK hs) ?_
 simp only[cN]
 all_goals (refine H5 ?_;refine kY ?_;refine aH ?_)
 all_goals
 refine bG (λ c6=>?_) (λ c6=>?_)
 ·all_goals refine dC ?_
  all_goals
   refine aU Tryz.results230 (λ w hw=>?_)
   exact⟨(),rfl,trivial,hw.aS⟩
 ·all_goals
   exact absurd (h.symm.trans c6) (by decide)
  all_goals (refine lG ?_;refine aW ?_;refine fL [0,1,2,3,4,5,6,7,8,9] ?_;refine qC ?_;refine mP ?_;refine kQ ?_;refine eC ?_)
  all_goals
   refine bG (λ c16=>?_) (λ c16=>?_)
   ·try exact nv c16
    all_goals (refine dX [(0,[]),(1,[]),(2,[]),(3,[]),(4,[]),(5,[]),(6,[]),(7,[]),(8,[]),(9,[4]),(10,[4]),(11,[]),(12,[]),(13,[]),(14,[])] ?_;refine aQ ?_;refine qC ?_;((refine cL (i:=9) (hq:=(NO)) (h:=λ x26=>?_);try (refine cW (λ h26=>?_))));refine bL (h:=λ x27=>?_);((refine kJ (h:=λ x28=>?_);try (refine cW (λ h28=>?_))));refine iy ?_;refine kY ?_;refine sC ?_;refine D5 ?_;refine aW ?_;refine fL [0,1,2,3,4,5,6,7,8,9,10,11] ?_;refine qC ?_;refine uZ ?_;refine Hq ?_;refine J7 ?_)
    all_goals
    refine aU Tryz.results230 (λ w hw=>?_)
    exact⟨(),rfl,trivial,hw.aS⟩
   ·try exact nv c16
    all_goals (refine Qi ?_;refine sC ?_;refine D5 ?_;refine aW ?_;refine fL [0,1,2,3,4,5,6,7,8,9,10,11] ?_;refine qC ?_;refine uZ ?_;refine Hq ?_;refine J7 ?_)
    all_goals
    refine aU Tryz.results230 (λ w hw=>?_)
    exact⟨(),rfl,trivial,hw.aS⟩
theorem Kz(h:x.st=false)(h1:x.g<x.gns.length)(hl:x.gns.length<=274877906944)(hs:SF w D (xH k bx bm x dn rs) A [] (xW x) w):Calls Tryz.prog 230 #[.pointer (some ⟨bx,0,none⟩)] w λ e w'=>∃q:Unit,e=.returned (.int .i64 (x.gns.getD x.g 0))/\True/\SF w D (xH k bx bm {x with g:=x.g+1} dn rs) [] [] (xW {x with g:=x.g+1}) w':=by
 refine enter Tryz.func230 Tryz.ntmps230 rfl rfl (cK hs) ?_
 simp only[cN]
 all_goals (refine H5 ?_;refine kY ?_;refine aH ?_)
 all_goals
 refine bG (λ c6=>?_) (λ c6=>?_)
 ·all_goals try (exfalso;omega)
  all_goals
   exact absurd (h.symm.trans c6) (by decide)
  all_goals refine dC ?_
  all_goals
   refine aU Tryz.results230 (λ w hw=>?_)
   exact⟨(),by rw[Nat.add_sub_cancel];rfl,trivial,hw.aS⟩
 ·all_goals try (exfalso;omega)
  all_goals (refine lG ?_;refine aW ?_;refine fL [0,1,2,3,4,5,6,7,8,9] ?_;refine qC ?_;refine mP ?_;refine kQ ?_;refine eC ?_)
  all_goals
   refine bG (λ c16=>?_) (λ c16=>?_)
   ·all_goals try (exfalso;omega)
    all_goals (refine dX [(0,[]),(1,[]),(2,[]),(3,[]),(4,[]),(5,[]),(6,[]),(7,[]),(8,[]),(9,[4]),(10,[4]),(11,[]),(12,[]),(13,[]),(14,[])] ?_;refine aQ ?_;refine qC ?_;((refine cL (i:=9) (hq:=(NO)) (h:=λ x26=>?_);try (refine cW (λ h26=>?_))));refine bL (h:=λ x27=>?_);((refine kJ (h:=λ x28=>?_);try (refine cW (λ h28=>?_))));refine J4 ?_;refine jQ (i:=14) (hq:=(by first|exact dR λ _=>bJ rf bQ wn rf cG rf rf eE|exact(dR λ _=>bJ rf bQ wn rf cG rf xX eE)|exact(dR λ _=>aK rf bQ rf rf cD rf eE)|exact(aM.aZ (cS rf rf cG dV om) dU)|exact(aM.aZ (cU rf rf cG dV om) dU)|exact(aM.aZ (o_storePv rf rf cG dV om) dU)|exact(aM.aZ (o_storeP rf rf cD dV om) dU))) (h:=λ _=>?_);refine eC ?_;refine kY ?_;refine aB (jS (m:=x.g) (n:=1) rf rf (by omega)) rfl ?_;refine D2 ?_;refine bZ (by first|exact dR λ _=>bJ rf bQ wn rf cG rf rf eE|exact(dR λ _=>bJ rf bQ wn rf cG rf xX eE)|exact(dR λ _=>aK rf bQ rf rf cD rf eE)|exact(aM.aZ (cS rf rf cG dV om) dU)|exact(aM.aZ (cU rf rf cG dV om) dU)|exact(aM.aZ (o_storePv rf rf cG dV om) dU)|exact(aM.aZ (o_storeP rf rf cD dV om) dU)) (λ _=>?_);refine Hs ?_;refine fL [0,1,2,3,4,5,6,7,8,9,10,11] ?_;refine qC ?_;refine cH (i:=8) (hq:=(gJ (m:=x.g+1) (n:=1) rf rf (by omega) (by omega))) (h:=?_);refine bS (i:=9) (hq:=(eK (m:=x.gns.length) (k:=x.g+1-1) (lst:=x.gns) rf rf gK cG (.own (.tail (.tail (.tail .head)))) (by omega) (by omega))) (h:=?_);refine bS (i:=10) (hq:=(fO (q:=x.g+1-1) (lst:=x.gns) rf cG (.own (.tail (.tail (.tail .head)))) (by omega))) (h:=?_);refine J7 ?_)
    all_goals
    refine aU Tryz.results230 (λ w hw=>?_)
    exact⟨(),by rw[Nat.add_sub_cancel];rfl,trivial,hw.aS⟩
   ·all_goals try (exfalso;omega)
    all_goals (refine Qi ?_;refine aB (jS (m:=x.g) (n:=1) rf rf (by omega)) rfl ?_;refine D2 ?_;refine bZ (by first|exact dR λ _=>bJ rf bQ wn rf cG rf rf eE|exact(dR λ _=>bJ rf bQ wn rf cG rf xX eE)|exact(dR λ _=>aK rf bQ rf rf cD rf eE)|exact(aM.aZ (cS rf rf cG dV om) dU)|exact(aM.aZ (cU rf rf cG dV om) dU)|exact(aM.aZ (o_storePv rf rf cG dV om) dU)|exact(aM.aZ (o_storeP rf rf cD dV om) dU)) (λ _=>?_);refine Hs ?_;refine fL [0,1,2,3,4,5,6,7,8,9,10,11] ?_;refine qC ?_;refine cH (i:=8) (hq:=(gJ (m:=x.g+1) (n:=1) rf rf (by omega) (by omega))) (h:=?_);refine bS (i:=9) (hq:=(eK (m:=x.gns.length) (k:=x.g+1-1) (lst:=x.gns) rf rf gK cG (.own (.tail (.tail (.tail .head)))) (by omega) (by omega))) (h:=?_);refine bS (i:=10) (hq:=(fO (q:=x.g+1-1) (lst:=x.gns) rf cG (.own (.tail (.tail (.tail .head)))) (by omega))) (h:=?_);refine J7 ?_)
    all_goals
    refine aU Tryz.results230 (λ w hw=>?_)
    exact⟨(),by rw[Nat.add_sub_cancel];rfl,trivial,hw.aS⟩
theorem kv(h:x.st=false)(h1:x.g=x.gns.length)(hl:x.gns.length<=137438953472)(hgn : -1<=x.gen/\x.gen<=137438953600)(hs:SF w D (xH k bx bm x dn rs) A [] (xW x) w):Calls Tryz.prog 230 #[.pointer (some ⟨bx,0,none⟩)] w λ e w'=>∃q:Option Addr×Nat,e=.returned (.int .i64 (x.gen+1))/\True /\
   SF w D (xH k bx bm {x with gen:=x.gen+1,gns:=x.gns++[x.gen+1],pe:=q.1,ke:=q.2,g:=x.g+1} dn rs) [] [] (xW {x with gen:=x.gen+1,gns:=x.gns++[x.gen+1],pe:=q.1,ke:=q.2,g:=x.g+1}) w':=by
 have hup:up x.gen=x.gen+1:=wrap_i64 (by omega) (by omega)
 refine enter Tryz.func230 Tryz.ntmps230 rfl rfl (cK hs) ?_
 simp only[cN]
 all_goals (refine H5 ?_;refine kY ?_;refine aH ?_)
 all_goals
 refine bG (λ c6=>?_) (λ c6=>?_)
 ·all_goals try (exfalso;omega)
  all_goals
   exact absurd (h.symm.trans c6) (by decide)
  all_goals refine dC ?_
  all_goals
   refine aU Tryz.results230 (λ w hw=>?_)
   rw[hup,show x.gns.length+1=(x.gns++[x.gen+1]).length by simp] at hw
   exact⟨x28,by rw[show x.g+1-1=x.gns.length by omega,iT,hup];rfl,trivial,hw.aS⟩
 ·all_goals try (exfalso;omega)
  all_goals (refine lG ?_;refine aW ?_;refine fL [0,1,2,3,4,5,6,7,8,9] ?_;refine qC ?_;refine mP ?_;refine kQ ?_;refine eC ?_)
  all_goals
   refine bG (λ c16=>?_) (λ c16=>?_)
   ·all_goals try (exfalso;omega)
    all_goals (refine dX [(0,[]),(1,[]),(2,[]),(3,[]),(4,[]),(5,[]),(6,[]),(7,[]),(8,[]),(9,[4]),(10,[4]),(11,[]),(12,[]),(13,[]),(14,[])] ?_;refine aQ ?_;refine qC ?_;refine bA (i:=9) (hq:=(cM (hc:=λ w hs=>Jr (L:=x.L) (cs:=x.cs) (gen:=x.gen) hs))) (h:=λ x26 h26=>?_);refine bL (h:=λ x27=>?_);((refine cL (i:=11) (hq:=(aM.eJ (sL (l:=x.gns) (m:=x.gns.length) rf rf (.tail (.tail (.tail .head))) rfl fin (by exact G4) gK (by omega)) dU)) (h:=λ x28=>?_);try (refine cW (λ h28=>?_))));refine J4 ?_;refine jQ (i:=14) (hq:=(by first|exact dR λ _=>bJ rf bQ wn rf cG rf rf eE|exact(dR λ _=>bJ rf bQ wn rf cG rf xX eE)|exact(dR λ _=>aK rf bQ rf rf cD rf eE)|exact(aM.aZ (cS rf rf cG dV om) dU)|exact(aM.aZ (cU rf rf cG dV om) dU)|exact(aM.aZ (o_storePv rf rf cG dV om) dU)|exact(aM.aZ (o_storeP rf rf cD dV om) dU))) (h:=λ _=>?_);refine eC ?_;refine kY ?_;refine aB (jS (m:=x.g) (n:=1) rf rf (by omega)) rfl ?_;refine D2 ?_;refine bZ (by first|exact dR λ _=>bJ rf bQ wn rf cG rf rf eE|exact(dR λ _=>bJ rf bQ wn rf cG rf xX eE)|exact(dR λ _=>aK rf bQ rf rf cD rf eE)|exact(aM.aZ (cS rf rf cG dV om) dU)|exact(aM.aZ (cU rf rf cG dV om) dU)|exact(aM.aZ (o_storePv rf rf cG dV om) dU)|exact(aM.aZ (o_storeP rf rf cD dV om) dU)) (λ _=>?_);refine Hs ?_;refine fL [0,1,2,3,4,5,6,7,8,9,10,11] ?_;refine qC ?_;refine cH (i:=8) (hq:=(gJ (m:=x.g+1) (n:=1) rf rf (by omega) (by omega))) (h:=?_);refine bS (i:=9) (hq:=(eK (m:=x.gns.length+1) (k:=x.g+1-1) rf rf gK cG (.own (.tail (.tail (.tail .head)))) (by omega) (by rw[List.length_append,List.length_cons,List.length_nil];omega))) (h:=?_);refine bS (i:=10) (hq:=(fO (q:=x.g+1-1) rf cG (.own (.tail (.tail (.tail .head)))) (by rw[List.length_append,List.length_cons,List.length_nil];omega))) (h:=?_);refine J7 ?_)
    all_goals
    refine aU Tryz.results230 (λ w hw=>?_)
    rw[hup,show x.gns.length+1=(x.gns++[x.gen+1]).length by simp] at hw
    exact⟨x28,by rw[show x.g+1-1=x.gns.length by omega,iT,hup];rfl,trivial,hw.aS⟩
   ·all_goals try (exfalso;omega)
    all_goals (refine Qi ?_;refine aB (jS (m:=x.g) (n:=1) rf rf (by omega)) rfl ?_;refine D2 ?_;refine bZ (by first|exact dR λ _=>bJ rf bQ wn rf cG rf rf eE|exact(dR λ _=>bJ rf bQ wn rf cG rf xX eE)|exact(dR λ _=>aK rf bQ rf rf cD rf eE)|exact(aM.aZ (cS rf rf cG dV om) dU)|exact(aM.aZ (cU rf rf cG dV om) dU)|exact(aM.aZ (o_storePv rf rf cG dV om) dU)|exact(aM.aZ (o_storeP rf rf cD dV om) dU)) (λ _=>?_);refine Hs ?_;refine fL [0,1,2,3,4,5,6,7,8,9,10,11] ?_;refine qC ?_;refine cH (i:=8) (hq:=(gJ (m:=x.g+1) (n:=1) rf rf (by omega) (by omega))) (h:=?_);refine bS (i:=9) (hq:=(eK (m:=x.gns.length+1) (k:=x.g+1-1) rf rf gK cG (.own (.tail (.tail (.tail .head)))) (by omega) (by rw[List.length_append,List.length_cons,List.length_nil];omega))) (h:=?_);refine bS (i:=10) (hq:=(fO (q:=x.g+1-1) rf cG (.own (.tail (.tail (.tail .head)))) (by rw[List.length_append,List.length_cons,List.length_nil];omega))) (h:=?_);refine J7 ?_)
    all_goals
    refine aU Tryz.results230 (λ w hw=>?_)
    rw[hup,show x.gns.length+1=(x.gns++[x.gen+1]).length by simp] at hw
    exact⟨x28,by rw[show x.g+1-1=x.gns.length by omega,iT,hup];rfl,trivial,hw.aS⟩
end
end

/- Executions of the reference: what the small methods do to the rest of the call. -/
end Go.Proofs.YtbajmaoegmbfgaaGreat
namespace Go.Ct
section
open Go Go.RowKit
section
variable{g:Gx}{x:XS}{N:List aX}
theorem XS.Ok.q6(h:x.Ok){y:XS}(e1:y.L=x.L)(e2:y.cs=x.cs)(e3:y.got=x.got)(e4:y.made=x.made)(e5:y.cel=x.cel)(e6:y.gns=x.gns)(ha:y.a<=x.got.length)(hm:y.m<=x.made.length)(hc:y.c<=x.cel.length)(hg:y.g<=x.gns.length)(hf:y.fr<=1)(e7:y.gen=x.gen:=by rfl):y.Ok :=
 ⟨by rw[e1];exact h.fit,by rw[e1,e2];exact h.nd,by rw[e1,e2];exact h.cs,by rw[e1,e3];exact h.got,by rw[e1,e4];exact h.made,by rw[e1];exact h.two,by rw[e1];exact h.lL,by rw[e2];exact h.lc,by rw[e3];exact h.lg,by rw[e3];exact ha,by rw[e4];exact hm,by rw[e5];exact hc,by rw[e6];exact hg,hf,by rw[e1];exact h.ys,by rw[e7];exact h.gen0,by rw[e4];exact h.ms,by rw[e4];exact h.m1⟩
theorem Nx.st{t:Tr}(hs:x.st=true)(go:gL g x t)(ok:x.Ok){t':Tr}:Nx g x x [] t' 0:=⟨go.cA hs,ok,by simp,Nat.le_refl _,bM _⟩
theorem Nx.cQ{x':XS}{t t':Tr}{b b':Int}(h:Nx g x x' N t b)(go:gL g x' t')(hb:b'<=x'.L.length):Nx g x x' N t' b':=⟨go,h.ok,h.ext,h.lc,hb⟩
theorem Nx.len{x':XS}{t:Tr}{b:Int}(h:Nx g x x' N t b):x.L.length<=x'.L.length:=by rw[h.ext,List.length_append];omega
theorem Nx.trans{x1 x2:XS}{N1 N2:List aX}{t1 t2:Tr}{b1 b2:Int}(h1:Nx g x x1 N1 t1 b1)(h2:Nx g x1 x2 N2 t2 b2):Nx g x x2 (N1++N2) t2 b2:=⟨h2.go,h2.ok,by rw[h2.ext,h1.ext,List.append_assoc],Nat.le_trans h1.lc h2.lc,h2.bd⟩
theorem Nx.ext'{x':XS}{t t':Tr}{b b':Int}(h:Nx g x x' (N++[]) t b)(go:gL g x' t')(hb:b'<=x'.L.length):Nx g x x' N t' b':=⟨go,h.ok,by have:=h.ext;rwa [List.append_nil] at this,h.lc,hb⟩
theorem Nx.start{t:Tr}(go:gL g x t)(ok:x.Ok):Nx g x x [] t 0:=⟨go,ok,by simp,Nat.le_refl _,bM _⟩
end
end
end Go.Ct
namespace Go.Proofs.YtbajmaoegmbfgaaGreat
section
open Go Go.RowKit Go.Ct
section
variable{k:Cl}{bx bm:Nat}{x:XS}{dn:Bool}{rs:Rs}{D:List Nat}{A:Fr}{w:World}{g:Gx}
theorem pX(hg:g.Ok)(c:Int)(K:Int->Tr)(hc:c<=9223372036854775807)(go:gL g x (.load c K))(ok:x.Ok)(hs:SF w D (xH k bx bm x dn rs) A [] (xW x) w):Calls Tryz.prog 210 #[.pointer (some ⟨bx,0,none⟩),.int .i64 c] w λ e w'=>∃q:Int×XS,e=.returned (.int .i64 q.1)/\Nx g x q.2 [] (K q.1) q.1/\SF w D (xH k bx bm q.2 dn rs) [] [] (xW q.2) w':=by
 cases hst:x.st with
 | true=>exact(ng c ok hst hs).mono λ e w' ⟨_,q1,_,q3⟩=>⟨(0,x),q1,Nx.st hst go ok,q3⟩
 | false =>
  have hgd:=go.run hst
  by_cases h1:x.a<x.got.length
  ·refine(G3 c ok hst h1 hs).mono λ e w' ⟨_,q1,_,q3⟩=>⟨(x.got.getD x.a 0,{x with a:=x.a+1}),q1,?_,q3⟩
   exact⟨.inl ⟨hst,hgd.G3 h1⟩,ok.q6 rfl rfl rfl rfl rfl rfl h1 ok.lm ok.lk ok.le ok.fr,by simp,Nat.le_refl _,mM ok.got _⟩
  ·have hat:=hgd.j4 h1
   by_cases h2:x.fr=0
   ·refine(kf c ok hst h1 h2 hs).mono λ e w' ⟨_,q1,_,q3⟩=>⟨(0,{x with st:=true,nx:=⟨1,c,0,0⟩}),q1,?_,q3⟩
    have hgo:gL g {x with st:=true,nx:=⟨1,c,0,0⟩} (.load c K):=hat.stop h2 rfl rfl rfl rfl rfl rfl rfl rfl rfl
    exact⟨hgo.cA rfl,ok.q6 rfl rfl rfl rfl rfl rfl ok.la ok.lm ok.lk ok.le ok.fr,by simp,Nat.le_refl _,bM _⟩
   ·refine(dy c hc ok hst h1 h2 hs).mono λ e w' ⟨q,q1,_,q3⟩=>⟨(dA x.cs c,{x with fr:=x.fr-1,acc:=up x.acc,got:=x.got++[dA x.cs c],pg:=q.1,kg:=q.2,a:=x.a+1}),q1,?_,q3⟩
    have hN:=hat.hN
    have hgN:=hg.hN
    have hgo:gL g {x with fr:=x.fr-1,acc:=up x.acc,got:=x.got++[dA x.cs c],pg:=q.1,kg:=q.2,a:=x.a+1} (K (dA x.cs c)):=hat.now (by omega) (λ L=>Wk.rh _) (.load c K x.mm) hst rfl rfl rfl rfl rfl rfl rfl rfl rfl rfl
    refine⟨hgo,⟨ok.fit,ok.nd,ok.cs,λ v hv=>?_,ok.made,ok.two,ok.lL,ok.lc,?_,?_,ok.lm,ok.lk,ok.le,?_,ok.ys,ok.gen0,ok.ms,ok.m1⟩,by simp,Nat.le_refl _,ok.cell c⟩
    ·rcases List.mem_append.1 hv with hv|hv
     ·exact ok.got v hv
     ·rw[List.mem_singleton.1 hv];exact ok.cell c
    ·show(x.got++[dA x.cs c]).length<=_
     rw[List.length_append,List.length_cons,List.length_nil];omega
    ·show x.a+1<=(x.got++[dA x.cs c]).length
     have:=ok.la
     rw[List.length_append,List.length_cons,List.length_nil];omega
    ·show x.fr-1<=1
     have:=ok.fr;omega
theorem rY(hg:g.Ok)(c o n:Int)(K:Bool->Tr)(hc:c<=9223372036854775807)(hn:n<=x.L.length)(go:gL g x (.kX c o n K))(ok:x.Ok)(hs:SF w D (xH k bx bm x dn rs) A [] (xW x) w):Calls Tryz.prog 212 #[.pointer (some ⟨bx,0,none⟩),.int .i64 c,.int .i64 o,.int .i64 n] w λ e w'=>∃q:Bool×XS,e=.returned (.bool q.1)/\Nx g x q.2 [] (K q.1) 0/\SF w D (xH k bx bm q.2 dn rs) [] [] (xW q.2) w':=by
 cases hst:x.st with
 | true=>exact(vi c o n ok hst hs).mono λ e w' ⟨_,q1,_,q3⟩=>⟨(false,x),q1,Nx.st hst go ok,q3⟩
 | false =>
  have hgd:=go.run hst
  by_cases h1:x.a<x.got.length
  ·refine(Lo c o n ok hst h1 hs).mono λ e w' ⟨_,q1,_,q3⟩=>⟨(x.got.getD x.a 0==1,{x with a:=x.a+1}),q1,?_,q3⟩
   exact⟨.inl ⟨hst,hgd.Lo h1⟩,ok.q6 rfl rfl rfl rfl rfl rfl h1 ok.lm ok.lk ok.le ok.fr,by simp,Nat.le_refl _,bM _⟩
  ·have hat:=hgd.uc h1
   by_cases h2:x.fr=0
   ·refine(tc c o n ok hst h1 h2 hs).mono λ e w' ⟨_,q1,_,q3⟩=>⟨(false,{x with st:=true,nx:=⟨2,c,o,n⟩}),q1,?_,q3⟩
    have hgo:gL g {x with st:=true,nx:=⟨2,c,o,n⟩} (.kX c o n K):=hat.stop h2 rfl rfl rfl rfl rfl rfl rfl rfl rfl
    exact⟨hgo.cA rfl,ok.q6 rfl rfl rfl rfl rfl rfl ok.la ok.lm ok.lk ok.le ok.fr,by simp,Nat.le_refl _,bM _⟩
   ·refine(li c o n hc ok hst h1 h2 hs).mono λ e w' ⟨q,q1,hb,q3⟩=>⟨(q.1,{x with fr:=x.fr-1,cs:=fG x.cs c o n,acc:=up x.acc,got:=x.got++[R8 q.1],pg:=q.2.1,kg:=q.2.2,a:=x.a+1}),q1,?_,q3⟩
    have hN:=hat.hN
    have hgN:=hg.hN
    have hb1:(R8 q.1==1)=q.1:=by cases q.1<;>rfl
    have hb2:R8 q.1<=x.L.length:=by have:=ok.two;cases q.1<;>simp only[R8]<;>(first|omega|(simp;omega)|simp)
    have hlc:=iF (cs:=x.cs) (c:=c) (bF:=o) (new:=n)
    have hgo:gL g {x with fr:=x.fr-1,cs:=fG x.cs c o n,acc:=up x.acc,got:=x.got++[R8 q.1],pg:=q.2.1,kg:=q.2.2,a:=x.a+1} (K q.1):=hat.now (v:=R8 q.1) (by omega) (λ L=>by have:=Wk.yn (L:=L) (c:=c) (o:=o) (n:=n) (k:=K) (R8 q.1);rw[hb1] at this;exact this) (.kX c o n K x.mm q.1 hb) hst rfl rfl rfl rfl rfl rfl rfl rfl rfl rfl
    refine⟨hgo,⟨ok.fit,λ v hv=>(ok.nd v hv).mono (Nat.le_refl _) (by show _<=(fG x.cs c o n).length;omega),λ v hv=>?_,λ v hv=>?_,ok.made,ok.two,ok.lL,by show(fG x.cs c o n).length<=_;rw[hlc];exact ok.lc,?_,?_,ok.lm,ok.lk,ok.le,?_,ok.ys,ok.gen0,ok.ms,ok.m1⟩,by simp,by show _<=(fG x.cs c o n).length;omega,bM _⟩
    ·have hv':v∈fG x.cs c o n:=hv
     unfold fG at hv'
     split at hv'
     ·rcases List.mem_or_eq_of_mem_set hv' with h|h
      ·exact ok.cs v h
      ·rw[h];exact hn
     ·exact ok.cs v hv'
    ·rcases List.mem_append.1 hv with hv|hv
     ·exact ok.got v hv
     ·rw[List.mem_singleton.1 hv];exact hb2
    ·show(x.got++[R8 q.1]).length<=_
     rw[List.length_append,List.length_cons,List.length_nil];omega
    ·show x.a+1<=(x.got++[R8 q.1]).length
     have:=ok.la
     rw[List.length_append,List.length_cons,List.length_nil];omega
    ·show x.fr-1<=1
     have:=ok.fr;omega
end
end

/- Executions of the reference: allocations, cells, generations, lookups along trees; calls. -/
section
open Go Go.RowKit Go.Ct
section
variable{k:Cl}{bx bm:Nat}{x:XS}{dn:Bool}{rs:Rs}{D:List Nat}{A:Fr}{w:World}{g:Gx}
def AlS(x:XS)(r:Int)(x':XS):Prop:=x.st=false->x'.st=false/\x'.m=x.m+1/\x'.made.getD x.m 0=r/\x.m<x'.made.length/\r=if x.m=x.made.length then((x.L.length+1:Nat):Int) else x.made.getD x.m 0
theorem Jb{l:List Int}{v:Int}:(l++[v]).getD l.length 0=v:=by simp[lB]
theorem jy{l:List Int}{n:Nat}(h:∀v∈l,v<=n)(hs:∀i j:Nat,i<j->j<l.length->l.getD i 0<l.getD j 0):∀i j:Nat,i<j->j<(l++[((n+1:Nat):Int)]).length->(l++[((n+1:Nat):Int)]).getD i 0<(l++[((n+1:Nat):Int)]).getD j 0:=by
 intro i j hij hj
 have e:∀k,k<l.length->(l++[((n+1:Nat):Int)]).getD k 0=l.getD k 0:=λ k hk=>by rw[lB,lB,List.getElem?_append_left hk]
 rw[List.length_append,List.length_singleton] at hj
 by_cases h2:j<l.length
 ·rw[e i (by omega),e j h2];exact hs i j hij h2
 ·have:j=l.length:=by omega
  subst this
  rw[e i hij,Jb]
  have:=mM h i
  omega
theorem Ur(hg:g.Ok){n:Nd}{xs:List Int}{ys:List Pr}(i:Int)(K:Int->Tr)(e1:n.brN=xs.length)(e2:n.prN=ys.length)(hx:xs.length<=274877906944)(hy:ys.length<=x.L.length+1)(hb:mU x.L.length x.cs.length {n.c xs ys with main:=0,prev:=0,status:=0})(hi:i<=x.L.length)(go:gL g x (.alloc (n.c xs ys) i K))(ok:x.Ok)(hs:SF w D (xH k bx bm x dn rs) [(n.brA,aG xs),(n.prA,dW ys)] [] (xW x) w) :
  Calls Tryz.prog 215 #[.pointer (some ⟨bx,0,none⟩),n.v,.int .i64 i] w λ e w'=>∃q:Int×XS×List aX,e=.returned (.int .i64 q.1)/\(Nx g x q.2.1 q.2.2 (K q.1) q.1/\AlS x q.1 q.2.1)/\SF w D (xH k bx bm q.2.1 dn rs) [] (aR q.2.2) (xW q.2.1) w':=by
 have hlL:=ok.lL
 cases hst:x.st with
 | true=>exact(ik i hst hs).mono λ e w' ⟨_,q1,_,q3⟩=>⟨(0,x,[]),q1,⟨Nx.st hst go ok,λ h=>by rw[hst] at h;cases h⟩,q3⟩
 | false =>
  have hgd:=go.run hst
  by_cases h1:x.m=x.made.length
  ·have hat:=hgd.bf h1
   obtain⟨tn,c,t1,t2,t3,t4,t5,t6,t7,t8⟩:=hat.room hg
   cases c with
   | zero=>exact t1.elim
   | succ c =>
    refine(Wp i ok hst h1 t6 (by omega) (by omega) e1 e2 (by omega) (by omega) hs).mono λ e w' ⟨q,q1,_,q3⟩=>⟨(((x.L.length+1:Nat):Int),{x with L:=x.L++[gI n xs ys x.cs.length q.1],cs:=cY n.kind x.cs i,pn:=q.1.pn,cn:=q.1.cn,pc:=q.1.pc,cc:=q.1.cc,made:=x.made++[((x.L.length+1:Nat):Int)],pm:=q.2.1,km:=q.2.2,m:=x.m+1},[gI n xs ys x.cs.length q.1]),q1,?_,?_⟩
    ·have hlen:(x.L++[gI n xs ys x.cs.length q.1]).length=x.L.length+1:=by simp
     have hcs:=lU (k:=n.kind) (cs:=x.cs) (init:=i)
     have hgo:gL g {x with L:=x.L++[gI n xs ys x.cs.length q.1],cs:=cY n.kind x.cs i,pn:=q.1.pn,cn:=q.1.cn,pc:=q.1.pc,cc:=q.1.cc,made:=x.made++[((x.L.length+1:Nat):Int)],pm:=q.2.1,km:=q.2.2,m:=x.m+1} (K ((x.L.length+1:Nat):Int)) :=
      hat.jP (ms:=[((x.L.length+1:Nat):Int)]) (cl:=[]) (gn:=[]) (N:=[gI n xs ys x.cs.length q.1]) (λ L=>Wk.Zx _) (by
       have:=Sp.alloc (n.c xs ys) i K x.mm
       have hl:x.mm.nodes.length=x.L.length:=by simp[XS.mm]
       rw[hl] at this
       have e:x.mm.push (n.c xs ys) i=XS.mm {x with L:=x.L++[gI n xs ys x.cs.length q.1],cs:=cY n.kind x.cs i,pn:=q.1.pn,cn:=q.1.cn,pc:=q.1.pc,cc:=q.1.cc,made:=x.made++[((x.L.length+1:Nat):Int)],pm:=q.2.1,km:=q.2.2,m:=x.m+1}:=by
        unfold Mm.push XS.mm
        simp only[List.map_append]
        rfl
       rw[<- e]
       exact this) hst rfl rfl (by simp) (by simp) rfl rfl rfl rfl rfl rfl
     refine⟨⟨hgo,⟨λ v hv=>?_,λ v hv=>?_,λ v hv=>?_,λ v hv=>?_,λ v hv=>?_,?_,?_,?_,ok.lg,ok.la,?_,ok.lk,ok.le,ok.fr,λ v hv=>?_,ok.gen0,?_,?_⟩,rfl,hcs.1,?_⟩,λ _=>⟨hst,rfl,by show(x.made++[_]).getD x.m 0=_;rw[h1];exact Jb,by show x.m<(x.made++[_]).length;rw[List.length_append,List.length_singleton];omega,by rw[if_pos h1]⟩⟩
     ·rcases List.mem_append.1 hv with hv|hv
      ·exact ok.fit v hv
      ·rw[List.mem_singleton.1 hv];exact Lt (by omega) (by omega)
     ·show mU (x.L++[gI n xs ys x.cs.length q.1]).length (cY n.kind x.cs i).length v.c
      rcases List.mem_append.1 hv with hv|hv
      ·exact(ok.nd v hv).mono (by omega) hcs.1
      ·rw[List.mem_singleton.1 hv]
       have hb':=hb.mono (n':=(x.L++[gI n xs ys x.cs.length q.1]).length) (c':=(cY n.kind x.cs i).length) (by omega) hcs.1
       refine⟨hb'.bF,hb'.exp,hb'.new,hb'.br,?_,?_,?_,hb'.bm,hb'.hash⟩
       ·show(if n.kind=2 then((x.cs.length+1:Nat):Int) else 0)<=_
        split
        ·rename_i hk;unfold cY;rw[if_pos (.inl hk)];simp
        ·omega
       ·show(if n.kind=3∨n.kind=5∨n.kind=6 then((x.cs.length+1:Nat):Int) else 0)<=_
        split
        ·rename_i hk;unfold cY;rw[if_pos (by omega)];simp
        ·omega
       ·show(if n.kind=8 then((x.cs.length+1:Nat):Int) else 0)<=_
        split
        ·rename_i hk;unfold cY;rw[if_pos (by omega)];simp
        ·omega
     ·show v<=((x.L++[gI n xs ys x.cs.length q.1]).length:Int)
      have hv':v∈cY n.kind x.cs i:=hv
      unfold cY at hv'
      split at hv'
      ·rcases List.mem_append.1 hv' with h|h
       ·have:=ok.cs v h;omega
       ·rw[List.mem_singleton.1 h];omega
      ·have:=ok.cs v hv';omega
     ·have:=ok.got v hv
      show v<=((x.L++[gI n xs ys x.cs.length q.1]).length:Int);omega
     ·show v<=((x.L++[gI n xs ys x.cs.length q.1]).length:Int)
      rcases List.mem_append.1 hv with hv|hv
      ·have:=ok.made v hv;omega
      ·rw[List.mem_singleton.1 hv];omega
     ·have:=ok.two
      show 2<=(x.L++[gI n xs ys x.cs.length q.1]).length;omega
     ·show(x.L++[gI n xs ys x.cs.length q.1]).length<=_;omega
     ·show(cY n.kind x.cs i).length<=_;omega
     ·show x.m+1<=(x.made++[((x.L.length+1:Nat):Int)]).length
      rw[List.length_append,List.length_cons,List.length_nil];omega
     ·show v.ys.length<=(x.L++[gI n xs ys x.cs.length q.1]).length
      rcases List.mem_append.1 hv with hv|hv
      ·have:=ok.ys v hv;omega
      ·rw[List.mem_singleton.1 hv]
       show ys.length<=_
       omega
     ·show ∀i j:Nat,i<j->j<(x.made++[((x.L.length+1:Nat):Int)]).length->(x.made++[((x.L.length+1:Nat):Int)]).getD i 0<(x.made++[((x.L.length+1:Nat):Int)]).getD j 0
      exact jy ok.made ok.ms
     ·show ∀v∈x.made++[((x.L.length+1:Nat):Int)],1<=v
      intro v hv
      rcases List.mem_append.1 hv with hv|hv
      ·exact ok.m1 v hv
      ·rw[List.mem_singleton.1 hv];omega
     ·show((x.L.length+1:Nat):Int)<=((x.L++[gI n xs ys x.cs.length q.1]).length:Int);omega
    ·have e:aR [gI n xs ys x.cs.length q.1]=(gI n xs ys x.cs.length q.1).fr:=by simp[aR]
     rw[e]
     exact q3
  ·have h2:x.m<x.made.length:=by have:=ok.lm;omega
   have hml:x.made.length<=274877906944:=by
    obtain⟨R,hR⟩:=hgd
    obtain⟨c2,_,_,u3⟩:=hR.full.rR (Nat.le_refl 64) hg.rR (by have:=hR.hN;omega)
    have:=hg.hN
    have:=hR.hN
    omega
   refine(alloc_old i ok hst h2 hml hs).mono λ e w' ⟨_,q1,_,q3⟩=>⟨(x.made.getD x.m 0,{x with m:=x.m+1},[]),q1,?_,q3⟩
   exact⟨⟨.inl ⟨hst,hgd.alloc_old h2⟩,ok.q6 rfl rfl rfl rfl rfl rfl ok.la h2 ok.lk ok.le ok.fr,by simp,Nat.le_refl _,mM ok.made _⟩,λ _=>⟨hst,rfl,rfl,h2,by rw[if_neg h1]⟩⟩
theorem gX(hg:g.Ok){n:Nd}{xs:List Int}{ys:List Pr}(i:Int)(K:Int->Tr)(e1:n.brN=xs.length)(e2:n.prN=ys.length)(hx:xs.length<=274877906944)(hy:ys.length<=x.L.length+1)(hb:mU x.L.length x.cs.length {n.c xs ys with main:=0,prev:=0,status:=0})(hi:i<=x.L.length)(go:gL g x (.alloc (n.c xs ys) i K))(ok:x.Ok)(hs:SF w D (xH k bx bm x dn rs) [(n.brA,aG xs),(n.prA,dW ys)] [] (xW x) w) :
  Calls Tryz.prog 215 #[.pointer (some ⟨bx,0,none⟩),n.v,.int .i64 i] w λ e w'=>∃q:Int×XS×List aX,e=.returned (.int .i64 q.1)/\Nx g x q.2.1 q.2.2 (K q.1) q.1/\SF w D (xH k bx bm q.2.1 dn rs) [] (aR q.2.2) (xW q.2.1) w':=by
 exact(Ur hg i K e1 e2 hx hy hb hi go ok hs).mono λ e w' ⟨q,q1,q2,q3⟩=>⟨q,q1,q2.1,q3⟩
theorem Qj(hg:g.Ok)(i:Int)(K:Int->Tr)(hi:i<=x.L.length)(go:gL g x (.cell i K))(ok:x.Ok)(hs:SF w D (xH k bx bm x dn rs) A [] (xW x) w):Calls Tryz.prog 228 #[.pointer (some ⟨bx,0,none⟩),.int .i64 i] w λ e w'=>∃q:Int×XS,e=.returned (.int .i64 q.1)/\Nx g x q.2 [] (K q.1) 0/\SF w D (xH k bx bm q.2 dn rs) [] [] (xW q.2) w':=by
 cases hst:x.st with
 | true=>exact(lz i hst hs).mono λ e w' ⟨_,q1,_,q3⟩=>⟨(0,x),q1,Nx.st hst go ok,q3⟩
 | false =>
  have hgd:=go.run hst
  by_cases h1:x.c=x.cel.length
  ·have hat:=hgd.mh h1
   obtain⟨tn,c,t1,t2,t3,t4,t5,t6,t7,t8⟩:=hat.room hg
   cases c with
   | zero=>exact t1.elim
   | succ c =>
    refine(ay i hst h1 t7 (by omega) hs).mono λ e w' ⟨q,q1,_,q3⟩=>⟨(((x.cs.length+1:Nat):Int),{x with cs:=x.cs++[i],pc:=q.1.1,cc:=q.1.2,cel:=x.cel++[((x.cs.length+1:Nat):Int)],pl:=q.2.1,kl:=q.2.2,c:=x.c+1}),q1,?_,q3⟩
    have hgo:gL g {x with cs:=x.cs++[i],pc:=q.1.1,cc:=q.1.2,cel:=x.cel++[((x.cs.length+1:Nat):Int)],pl:=q.2.1,kl:=q.2.2,c:=x.c+1} (K ((x.cs.length+1:Nat):Int)) :=
     hat.jP (ms:=[]) (cl:=[((x.cs.length+1:Nat):Int)]) (gn:=[]) (N:=[]) (λ L=>Wk.Ir _) (Sp.cell i K x.mm) hst rfl (by simp) rfl (by simp) (by simp) rfl rfl rfl rfl rfl
    have hlc:(x.cs++[i]).length=x.cs.length+1:=by simp
    refine⟨hgo,⟨ok.fit,λ v hv=>(ok.nd v hv).mono (Nat.le_refl _) (by show _<=(x.cs++[i]).length;omega),λ v hv=>?_,ok.got,ok.made,ok.two,ok.lL,by show(x.cs++[i]).length<=_;omega,ok.lg,ok.la,ok.lm,?_,ok.le,ok.fr,ok.ys,ok.gen0,ok.ms,ok.m1⟩,by simp,by show _<=(x.cs++[i]).length;omega,bM _⟩
    ·rcases List.mem_append.1 hv with h|h
     ·exact ok.cs v h
     ·rw[List.mem_singleton.1 h];exact hi
    ·show x.c+1<=(x.cel++[((x.cs.length+1:Nat):Int)]).length
     rw[List.length_append,List.length_cons,List.length_nil];omega
  ·have h2:x.c<x.cel.length:=by have:=ok.lk;omega
   have hml:x.cel.length<=274877906944:=by
    obtain⟨R,hR⟩:=hgd
    obtain⟨c2,_,_,u3⟩:=hR.full.rR (Nat.le_refl 64) hg.rR (by have:=hR.hN;omega)
    have:=hg.hN
    have:=hR.hN
    omega
   refine(Fs i hst h2 hml hs).mono λ e w' ⟨_,q1,_,q3⟩=>⟨(x.cel.getD x.c 0,{x with c:=x.c+1}),q1,?_,q3⟩
   exact⟨.inl ⟨hst,hgd.Fs h2⟩,ok.q6 rfl rfl rfl rfl rfl rfl ok.la ok.lm h2 ok.le ok.fr,by simp,Nat.le_refl _,bM _⟩
theorem bk(hg:g.Ok)(K:Int->Tr)(go:gL g x (.gen K))(ok:x.Ok)(hs:SF w D (xH k bx bm x dn rs) A [] (xW x) w):Calls Tryz.prog 230 #[.pointer (some ⟨bx,0,none⟩)] w λ e w'=>∃q:Int×XS,e=.returned (.int .i64 q.1)/\Nx g x q.2 [] (K q.1) 0/\SF w D (xH k bx bm q.2 dn rs) [] [] (xW q.2) w':=by
 cases hst:x.st with
 | true=>exact(tw hst hs).mono λ e w' ⟨_,q1,_,q3⟩=>⟨(0,x),q1,Nx.st hst go ok,q3⟩
 | false =>
  have hgd:=go.run hst
  by_cases h1:x.g=x.gns.length
  ·have hat:=hgd.wq h1
   obtain⟨tn,c,t1,t2,t3,t4,t5,t6,t7,t8⟩:=hat.room hg
   cases c with
   | zero=>exact t1.elim
   | succ c =>
    refine(kv hst h1 t8 ⟨by have:=ok.gen0;omega,by omega⟩ hs).mono λ e w' ⟨q,q1,_,q3⟩=>⟨(x.gen+1,{x with gen:=x.gen+1,gns:=x.gns++[x.gen+1],pe:=q.1,ke:=q.2,g:=x.g+1}),q1,?_,q3⟩
    have hgo:gL g {x with gen:=x.gen+1,gns:=x.gns++[x.gen+1],pe:=q.1,ke:=q.2,g:=x.g+1} (K (x.gen+1)) :=
     hat.jP (ms:=[]) (cl:=[]) (gn:=[x.gen+1]) (N:=[]) (λ L=>Wk.xj _) (Sp.gen K x.mm) hst rfl (by simp) (by simp) rfl (by simp) rfl rfl rfl rfl rfl
    refine⟨hgo,⟨ok.fit,ok.nd,ok.cs,ok.got,ok.made,ok.two,ok.lL,ok.lc,ok.lg,ok.la,ok.lm,ok.lk,?_,ok.fr,ok.ys,?_,ok.ms,ok.m1⟩,by simp,Nat.le_refl _,bM _⟩
    ·show x.g+1<=(x.gns++[x.gen+1]).length
     rw[List.length_append,List.length_cons,List.length_nil];omega
    ·show 0<=x.gen+1
     have:=ok.gen0;omega
  ·have h2:x.g<x.gns.length:=by have:=ok.le;omega
   have hml:x.gns.length<=274877906944:=by
    obtain⟨R,hR⟩:=hgd
    obtain⟨c2,_,_,u3⟩:=hR.full.rR (Nat.le_refl 64) hg.rR (by have:=hR.hN;omega)
    have:=hg.hN
    have:=hR.hN
    omega
   refine(Kz hst h2 hml hs).mono λ e w' ⟨_,q1,_,q3⟩=>⟨(x.gns.getD x.g 0,{x with g:=x.g+1}),q1,?_,q3⟩
   exact⟨.inl ⟨hst,hgd.Kz h2⟩,ok.q6 rfl rfl rfl rfl rfl rfl ok.la ok.lm ok.lk h2 ok.fr,by simp,Nat.le_refl _,bM _⟩
theorem cR(r:Int)(K:Nv->Tr)(hr:r<=x.L.length)(go:gL g x (.node r K))(ok:x.Ok)(hs:SF w D (xH k bx bm x dn rs) A [] (xW x) w):Calls Tryz.prog 211 #[.pointer (some ⟨bx,0,none⟩),.int .i64 r] w λ e w'=>∃q:Unit,e=.returned (aD x.L r).nd.v/\(gL g x (K (aD x.L r).c)/\mU x.L.length x.cs.length (aD x.L r).c)/\SF w D (xH k bx bm x dn rs) [] [] (xW x) w':=by
 have hl:=ok.lL
 refine(gA r (by omega) ok hs).mono λ e w' ⟨q,q1,_,q3⟩=>⟨q,q1,⟨?_,ok.nv r⟩,q3⟩
 have:=go.node hr
 rw[show fV x.nodes r=(aD x.L r).c from(Lj x.L r).symm] at this
 exact this
end
end

end Go.Proofs.YtbajmaoegmbfgaaGreat
