/- Nodes are made; lists are copied. -/
import Derived.Test.YtbajmaoegmbfgaaGreatGSlices
import Derived.Test.YtbajmaoegmbfgaaGreatGMs1

set_option linter.unusedSimpArgs false
set_option linter.unusedVariables false
namespace Go.Proofs.YtbajmaoegmbfgaaGreat
section
open Go.RowKit Go.Ct
theorem b9(o:Int)(w:World):Calls Tryz.prog 202 #[.int .i64 o] w λ e w'=>e=.returned ({Nd.zero with kind:=7,bN:=o}:Nd).v/\St w [] [] w':=by
 refine enter Tryz.func202 Tryz.ntmps202 rfl rfl (SF.s0 w) ?_
 simp only[bY]
 refine J0 ?_;refine aI (λ x2=>?_);refine aH ?_;refine J2 ?_;refine xS ?_
 refine bD Tryz.results202 (λ w hw=>?_)
 exact⟨rfl,hw.done⟩
theorem SF.frz{w w':World}{F:Fr}{o:Ow}(h:SF w [] [] [] F [o] w'):SF w [] [] [] ((o.p,o.cs)::F) [] w':=h.freeze .head (by simp)
theorem SF.aCq{w w':World}{F:Fr}{o o2:Ow}(h:SF w [] [] [] F [o,o2] w'):SF w [] [] [] ((o2.p,o2.cs)::(o.p,o.cs)::F) [] w':=(h.freeze .head (by simp)).freeze .head (by simp)
theorem Rl:xF Tryz.prog 164 24=true:=by kernel_rfl
theorem W9:xF Tryz.prog 37 8=true:=by kernel_rfl
theorem Yo{l:List Pr}{a:Option Addr}{c:Nat}{w:World}(ha:Cl w a (dH l))(hl:l.length<=11728124029610):Calls Tryz.prog 124 #[.slice a l.length c] w λ e w' =>
  ∃p:Option Addr,e=.returned (.slice p l.length l.length)/\(l=[]->p=none)/\SF w [] [] [] [] [⟨p,dH l,l.length,164,2⟩] w':=by
 refine enter Tryz.func124 Tryz.ntmps124 rfl rfl (SF.s1 ha) ?_
 simp only[bY]
 refine cR ?_;refine kM ?_;refine dI ?_;refine uI ?_
 refine bE (λ c6=>?_) (λ c6=>?_)
 ·have hl0:l=[]:=List.eq_nil_of_length_eq_zero (by omega)
  subst hl0
  refine cR ?_
  refine aT Tryz.results124 (λ w hw=>?_)
  exact⟨none,rfl,λ _=>rfl,(hw.lW 164 2).aU⟩
 ·refine bB ?_;refine J2 ?_;refine dI ?_;refine aR (lj rf rf ep1 Rl om om) (λ x9=>?_);refine wJ ?_;refine iq (λ x12=>?_);refine aH ?_;refine J2 ?_;refine J1 ?_
  refine aT Tryz.results124 (λ w hw=>?_)
  exact⟨some ⟨x9,0,none⟩,rfl,λ h=>absurd (congrArg List.length h) (by simpa using c6),by simpa using hw.aU (H':=[]) (F':=[])⟩
theorem Xv{l:List Int}{a:Option Addr}{c:Nat}{w:World}(ha:Cl w a (aG l))(hl:l.length<=35184372088832):Calls Tryz.prog 123 #[.slice a l.length c] w λ e w' =>
  ∃p:Option Addr,e=.returned (.slice p l.length l.length)/\(l=[]->p=none)/\SF w [] [] [] [] [⟨p,aG l,l.length,37,1⟩] w':=by
 refine enter Tryz.func123 Tryz.ntmps123 rfl rfl (SF.s1 ha) ?_
 simp only[bY]
 refine cR ?_;refine kM ?_;refine dI ?_;refine uI ?_
 refine bE (λ c6=>?_) (λ c6=>?_)
 ·have hl0:l=[]:=List.eq_nil_of_length_eq_zero (by omega)
  subst hl0
  refine cR ?_
  refine aT Tryz.results123 (λ w hw=>?_)
  exact⟨none,rfl,λ _=>rfl,(hw.lW 37 1).aU⟩
 ·refine bB ?_;refine J2 ?_;refine dI ?_;refine aR (iy rf rf nl W9 om om) (λ x9=>?_);refine wJ ?_;refine iq (λ x12=>?_);refine aH ?_;refine J2 ?_;refine J1 ?_
  refine aT Tryz.results123 (λ w hw=>?_)
  exact⟨some ⟨x9,0,none⟩,rfl,λ h=>absurd (congrArg List.length h) (by simpa using c6),by simpa using hw.aU (H':=[]) (F':=[])⟩
theorem Un{n:Nd}{xs:List Int}{ys:List Pr}{w:World}(hr:qS w n xs ys)(h1:xs.length<=35184372088832)(h2:ys.length<=11728124029610):Calls Tryz.prog 78 #[n.v] w λ e w' =>
  ∃p:Option Addr×Option Addr,e=.returned ({n with brA:=p.1,brC:=xs.length,prA:=p.2,dH:=ys.length}:Nd).v/\((xs=[]->p.1=none)/\(ys=[]->p.2=none))/\SF w [] [] [] [] [⟨p.2,dH ys,ys.length,164,2⟩,⟨p.1,aG xs,xs.length,37,1⟩] w':=by
 have e1:=hr.brN;have e2:=hr.prN
 refine enter Tryz.func78 Tryz.ntmps78 rfl rfl (SF.s2 hr.br hr.pr) ?_
 simp only[bY]
 simp only[Nd.v,Nd.cells]
 refine J0 ?_;refine bO (λ x1=>?_);refine aI (λ x2=>?_);refine aH ?_;refine gZ ?_;refine aC (Rx (Hc:=λ _=>[]) (Fc:=λ _=>[]) (hc:=λ w1 hw=>by rw[e1];exact Xv (hw.cl fin) h1)) (λ x5 h5=>?_);refine uN ?_;refine gZ ?_;refine aC (Rx (Hc:=λ _=>[]) (Fc:=λ _=>[]) (hc:=λ w1 hw=>by rw[e2];exact Yo (hw.cl fin) h2)) (λ x9 h9=>?_);refine uN ?_;refine pK ?_;refine J5 ?_
 refine bD Tryz.results78 (λ w hw=>?_)
 exact⟨(x5,x9),by rw[e1,e2];rfl,⟨h5,h9⟩,hw.aU⟩
theorem W3{n:Nd}{xs:List Int}{ys:List Pr}{w:World}(hr:qS w n xs ys)(h1:xs.length<=35184372088832)(h2:ys.length<=11728124029610):Calls Tryz.prog 78 #[n.v] w λ e w' =>
  ∃p:Option Addr×Option Addr,e=.returned ({n with brA:=p.1,brC:=xs.length,prA:=p.2,dH:=ys.length}:Nd).v/\((xs=[]->p.1=none)/\(ys=[]->p.2=none))/\SF w [] [] [] [(p.1,aG xs),(p.2,dH ys)] [] w':=(Un hr h1 h2).mono λ _ _ ⟨p,he,hp,hs⟩=>⟨p,he,hp,SF.aCq hs⟩
end

/- Nodes of memories: New, Node, Alloc. -/
end Go.Proofs.YtbajmaoegmbfgaaGreat
namespace Go.Ct
section
def fA:aZ:=⟨{Nd.zero with kind:=1},[],[]⟩
def aD(L:List aZ)(r:Int):aZ:=if 1<=r/\r<=L.length then L.getD (r-1).toNat aZ.zero else aZ.zero
theorem wI{L:List aZ}{r:Int}(h:¬(1<=r/\r<=L.length)):aD L r=aZ.zero:=if_neg h
theorem A1{L:List aZ}{k:Nat}(h:k<L.length):aD L ((k+1:Nat):Int)=L.getD k aZ.zero:=by
 unfold aD
 rw[if_pos (by omega),show(((k+1:Nat):Int)-1).toNat=k by omega]
def cB(L:List aZ):List aZ:=fA::fA::L
theorem fI(L:List aZ):(cB L).length=L.length+2:=rfl
theorem N8:fA.Fit:=⟨rfl,rfl,by decide,by decide⟩
theorem Fits.all{L:List aZ}(h:Fits L):Fits (cB L):=λ v hv=>by
 simp only[cB,List.mem_cons] at hv
 rcases hv with rfl|rfl|hv
 ·exact N8
 ·exact N8
 ·exact h v hv
theorem Bq{L:List aZ}(h:Fits L)(r:Int):(aD L r).Fit:=by
 unfold aD
 split
 ·rename_i hr
  exact h.at (by omega)
 ·exact P3
structure AX where
 pn:Option Addr
 cn:Nat
 pc:Option Addr
 cc:Nat
 b1:Option Addr
 c1:Nat
 b2:Option Addr
 c2:Nat
def fX(k:Int)(cs:List Int)(init:Int):List Int:=if k=2∨k=3∨k=5∨k=6∨k=8 then cs++[init] else cs
def oN(n:Nd)(xs:List Int)(ys:List Pr)(c:Nat)(x:AX):aZ :=
 aZ.mk {n with main:=if n.kind=2 then((c+1:Nat):Int) else 0,prev:=if n.kind=3∨n.kind=5∨n.kind=6 then((c+1:Nat):Int) else 0,status:=if n.kind=8 then((c+1:Nat):Int) else 0,brA:=x.b1,brN:=xs.length,brC:=x.c1,prA:=x.b2,prN:=ys.length,dH:=x.c2} xs ys
theorem lP{k:Int}{cs:List Int}{init:Int}:cs.length<=(fX k cs init).length/\(fX k cs init).length<=cs.length+1:=by unfold fX;split<;>simp
theorem L3{n:Nd}{xs:List Int}{ys:List Pr}{c:Nat}{x:AX}(h1:xs.length<=35184372088832)(h2:ys.length<=11728124029610):(oN n xs ys c x).Fit:=⟨rfl,rfl,h1,h2⟩
def aZ.at_(v:aZ)(p q:Option Addr):aZ:=⟨{v.nd with brA:=p,brC:=v.xs.length,prA:=q,dH:=v.ys.length},v.xs,v.ys⟩
theorem aZ.Tx{v:aZ}(h:v.Fit)(p q:Option Addr):(v.at_ p q).Fit:=⟨h.brN,h.prN,h.brS,h.prS⟩
end
end Go.Ct
namespace Go.Proofs.YtbajmaoegmbfgaaGreat
section
open Go.RowKit Go.Ct
variable{w:World}{D:List Nat}{b:Nat}{L:List aZ}{cs:List Int}{gen acc:Int}{pn pc:Option Addr}{cn cc:Nat}{A:Fr}
theorem ef(w:World):Calls Tryz.prog 64 #[] w λ e w'=>∃q:Nat×Option Addr,e=.returned (.pointer (some ⟨q.1,0,none⟩))/\True /\
  SF w [] [(q.1,mO [fA,fA] [] 0 0 q.2 2 none 0)] [] [] (mW [fA,fA] [] q.2 2 none 0) w':=by
 refine enter Tryz.func64 Tryz.ntmps64 rfl rfl (SF.s0 w) ?_
 simp only[bY]
 refine cR ?_;refine J0 ?_;refine bJ ?_;refine bJ ?_;refine aR (Si (c:=2) (sz:=14) rfl (λ _=>cP rT Ix rfl rfl rfl rfl (by simp only[C9,nB,List.cons_append,List.nil_append];exact rfl))) (λ x3=>?_);refine bJ ?_;refine bJ ?_;refine bO (λ x6=>?_);refine J1 ?_
 refine aT Tryz.results64 (λ w hw=>?_)
 exact⟨(x6,some ⟨x3,0,none⟩),rfl,trivial,(SF.mv (hw.lW 37 1)).aU⟩
theorem kf(hs:SF w D [(b,mO L cs gen acc pn cn pc cc)] A [] (mW L cs pn cn pc cc) w)(r:Int)(hr:r<1):Calls Tryz.prog 25 #[.pointer (some ⟨b,0,none⟩),.int .i64 r] w λ e w'=>∃q:Unit,e=.returned (aD L r).nd.v/\True /\
  SF w D [(b,mO L cs gen acc pn cn pc cc)] [] [] (mW L cs pn cn pc cc) w':=by
 refine enter Tryz.func25 Tryz.ntmps25 rfl rfl (yO hs) ?_
 simp only[bY]
 refine J0 ?_;refine aI (λ x4=>?_);refine aH ?_;refine kM ?_;refine Fv ?_
 (refine eM 7 (λ g7=>?_) (λ g7=>?_)<;>(try (exfalso;omega))<;>(refine aJ ?_))
 refine J79 ?_;refine nq ?_;refine Iw ?_;refine aH ?_
 refine bE (λ c16=>?_) (λ c16=>?_)
 ·try (exfalso;omega)
  refine J0 ?_;refine xS ?_
  refine bD Tryz.results25 (λ w hw=>?_)
  exact⟨(),by rw[wI (by omega)];rfl,trivial,hw.aU⟩
 ·exact nv c16
theorem bc(hs:SF w D [(b,mO L cs gen acc pn cn pc cc)] A [] (mW L cs pn cn pc cc) w){k:Nat}(hk:(k:Int)<9223372036854775807)(hl:L.length<=274877906944):Calls Tryz.prog 25 #[.pointer (some ⟨b,0,none⟩),.int .i64 ((k+1:Nat):Int)] w λ e w'=>∃q:Unit,e=.returned (aD L ((k+1:Nat):Int)).nd.v/\True /\
  SF w D [(b,mO L cs gen acc pn cn pc cc)] [] [] (mW L cs pn cn pc cc) w':=by
 refine enter Tryz.func25 Tryz.ntmps25 rfl rfl (yO hs) ?_
 simp only[bY]
 refine J0 ?_;refine aI (λ x4=>?_);refine aH ?_;refine kM ?_;refine Fv ?_
 (refine aF ?_;refine aA ?_)
 refine J79 ?_;refine nq ?_;refine Iw ?_;refine aH ?_
 refine bE (λ c16=>?_) (λ c16=>?_)
 ·try (exfalso;omega)
  refine J0 ?_;refine xS ?_
  refine bD Tryz.results25 (λ w hw=>?_)
  (exact⟨(),by rw[wI (by omega)];rfl,trivial,hw.aU⟩)
 ·try (exfalso;omega)
  refine bB ?_;refine Ew ?_;refine J3 ?_;refine aA ?_;refine uR ?_;refine Yu ?_;refine J5 ?_
  refine bD Tryz.results25 (λ w hw=>?_)
  (exact⟨(),by rw[A1 (by omega)];rfl,trivial,hw.aU⟩)
theorem ry(hs:SF w D [(b,mO L cs gen acc pn cn pc cc)] A [] (mW L cs pn cn pc cc) w)(r:Int)(hr:r<=9223372036854775807)(hl:L.length<=274877906944):Calls Tryz.prog 25 #[.pointer (some ⟨b,0,none⟩),.int .i64 r] w λ e w'=>∃q:Unit,e=.returned (aD L r).nd.v/\True /\
  SF w D [(b,mO L cs gen acc pn cn pc cc)] [] [] (mW L cs pn cn pc cc) w':=by
 rcases Int.lt_or_le r 1 with h|h
 ·exact kf hs r h
 ·obtain⟨k,rfl⟩:∃k:Nat,r=((k+1:Nat):Int):=⟨(r-1).toNat,by omega⟩
  exact bc hs (by omega) hl
end

/- Alloc of the two memories. -/
section
open Go.RowKit Go.Ct
variable{w:World}{D:List Nat}{b:Nat}{L:List aZ}{cs:List Int}{gen acc:Int}{pn pc:Option Addr}{cn cc:Nat}{A:Fr}
theorem Gv {n : Nd} {xs : List Int} {ys : List Pr} (init : Int) (hs : SF w D [(b, mO L cs gen acc pn cn pc cc)] [(n.brA, aG xs), (n.prA, dH ys)] [] (mW L cs pn cn pc cc) w) (e1 : n.brN = xs.length) (e2 : n.prN = ys.length) (h1 : xs.length ≤ 274877906944) (h2 : ys.length ≤ 274877906944)
    (hl : L.length ≤ 274877906944) (hc : cs.length ≤ 274877906944) :
    Calls Tryz.prog 92 #[.pointer (some ⟨b, 0, none⟩), n.v, .int .i64 init] w fun e w' => ∃ x : AX, e = .returned (.int .i64 ((L.length + 1 : Nat) : Int)) ∧ True ∧
      SF w D [(b, mO (L ++ [oN n xs ys cs.length x]) (fX n.kind cs init) gen acc x.pn x.cn x.pc x.cc)] [] (oN n xs ys cs.length x).fr (mW (L ++ [oN n xs ys cs.length x]) (fX n.kind cs init) x.pn x.cn x.pc x.cc) w' := by
  refine enter Tryz.func92 Tryz.ntmps92 rfl rfl (yO hs) ?_
  simp only [bY]
  simp only [Nd.v, Nd.cells]
  refine J0 ?_; refine bO (fun x4 => ?_); refine J1 ?_; refine J0 ?_; refine aE ?_; refine jP (fun _ => ?_); refine aE ?_; refine jP (fun _ => ?_); refine uN ?_; refine Du ?_; refine aH ?_; refine cI ?_; refine lF ?_
  refine bE (fun c12 => ?_) (fun c12 => ?_)
  · try (exfalso; omega)
    refine Me ?_; refine aC (cM (hc := fun w hs => lE init hs hc)) (fun x16 h16 => ?_); refine uN ?_; refine eP ?_; refine J0 ?_; refine iM (fun x32 => ?_); refine J3 ?_; (refine fQ (fun x35 => ?_); try (refine eZ (fun h35 => ?_))); refine uN ?_; refine J0 ?_; refine iM (fun x37 => ?_); refine J3 ?_; (refine fQ (fun x40 => ?_); try (refine eZ (fun h40 => ?_))); refine uN ?_; refine aV ?_; refine dX [(0, []), (1, []), (2, []), (3, []), (4, []), (5, []), (6, []), (7, [5]), (8, []), (9, []), (10, []), (11, []), (12, [])] ?_; refine aP ?_; refine xR ?_; refine bP ?_; refine cG (h := fun x49 => ?_); ((refine cN (i := 8) (hq := (bF.eK (fJ (sz := 14) rf rf yS (by rw [dZ]) fin rfl rfl Q7 rfl (by decide) hX om) uO)) (h := fun x50 => ?_); try (refine eY (fun h50 => ?_)))); refine J4 ?_; refine aQ ?_; refine Ar ?_; refine Ew ?_; refine P4 ?_; refine J1 ?_
    refine aT Tryz.results92 (fun w hw => ?_)
    have h2 := (hw.freeze .head).freeze .head
    simp only [rC, List.nil_append] at h2
    have h3 := h2.aU (H' := [(b, _)]) (F' := [(x35.1, aG xs), (x40.1, dH ys)]) (O' := [_, _])
    exact ⟨⟨x50.1, x50.2, x16.1, x16.2, x35.1, x35.2, x40.1, x40.2⟩, rfl, trivial, by simpa [mO, aO, mW, oN, aZ.fr, fX, kB, Nd.cells, *] using h3⟩
  · try (exfalso; omega)
    refine aV ?_; refine lF ?_
    refine bE (fun c18 => ?_) (fun c18 => ?_)
    · try (exfalso; omega)
      refine bB ?_
      refine bE (fun c18 => ?_) (fun c18 => ?_)
      · try (exfalso; omega)
        refine Me ?_; refine aC (cM (hc := fun w hs => lE init hs hc)) (fun x24 h24 => ?_); refine uN ?_; refine eP ?_; refine J0 ?_; refine iM (fun x32 => ?_); refine J3 ?_; (refine fQ (fun x35 => ?_); try (refine eZ (fun h35 => ?_))); refine uN ?_; refine J0 ?_; refine iM (fun x37 => ?_); refine J3 ?_; (refine fQ (fun x40 => ?_); try (refine eZ (fun h40 => ?_))); refine uN ?_; refine aV ?_; refine dX [(0, []), (1, []), (2, []), (3, []), (4, []), (5, []), (6, []), (7, [5]), (8, []), (9, []), (10, []), (11, []), (12, [])] ?_; refine aP ?_; refine xR ?_; refine bP ?_; refine cG (h := fun x49 => ?_); ((refine cN (i := 8) (hq := (bF.eK (fJ (sz := 14) rf rf yS (by rw [dZ]) fin rfl rfl Q7 rfl (by decide) hX om) uO)) (h := fun x50 => ?_); try (refine eY (fun h50 => ?_)))); refine J4 ?_; refine aQ ?_; refine Ar ?_; refine Ew ?_; refine P4 ?_; refine J1 ?_
        refine aT Tryz.results92 (fun w hw => ?_)
        have h2 := (hw.freeze .head).freeze .head
        simp only [rC, List.nil_append] at h2
        have h3 := h2.aU (H' := [(b, _)]) (F' := [(x35.1, aG xs), (x40.1, dH ys)]) (O' := [_, _])
        exact ⟨⟨x50.1, x50.2, x24.1, x24.2, x35.1, x35.2, x40.1, x40.2⟩, rfl, trivial, by simpa [mO, aO, mW, oN, aZ.fr, fX, kB, Nd.cells, *] using h3⟩
      · try (exfalso; omega)
    · try (exfalso; omega)
      refine lF ?_
      refine bE (fun c18 => ?_) (fun c18 => ?_)
      · try (exfalso; omega)
        refine bB ?_
        refine bE (fun c18 => ?_) (fun c18 => ?_)
        · try (exfalso; omega)
          refine Me ?_; refine aC (cM (hc := fun w hs => lE init hs hc)) (fun x24 h24 => ?_); refine uN ?_; refine eP ?_; refine J0 ?_; refine iM (fun x32 => ?_); refine J3 ?_; (refine fQ (fun x35 => ?_); try (refine eZ (fun h35 => ?_))); refine uN ?_; refine J0 ?_; refine iM (fun x37 => ?_); refine J3 ?_; (refine fQ (fun x40 => ?_); try (refine eZ (fun h40 => ?_))); refine uN ?_; refine aV ?_; refine dX [(0, []), (1, []), (2, []), (3, []), (4, []), (5, []), (6, []), (7, [5]), (8, []), (9, []), (10, []), (11, []), (12, [])] ?_; refine aP ?_; refine xR ?_; refine bP ?_; refine cG (h := fun x49 => ?_); ((refine cN (i := 8) (hq := (bF.eK (fJ (sz := 14) rf rf yS (by rw [dZ]) fin rfl rfl Q7 rfl (by decide) hX om) uO)) (h := fun x50 => ?_); try (refine eY (fun h50 => ?_)))); refine J4 ?_; refine aQ ?_; refine Ar ?_; refine Ew ?_; refine P4 ?_; refine J1 ?_
          refine aT Tryz.results92 (fun w hw => ?_)
          have h2 := (hw.freeze .head).freeze .head
          simp only [rC, List.nil_append] at h2
          have h3 := h2.aU (H' := [(b, _)]) (F' := [(x35.1, aG xs), (x40.1, dH ys)]) (O' := [_, _])
          exact ⟨⟨x50.1, x50.2, x24.1, x24.2, x35.1, x35.2, x40.1, x40.2⟩, rfl, trivial, by simpa [mO, aO, mW, oN, aZ.fr, fX, kB, Nd.cells, *] using h3⟩
        · try (exfalso; omega)
      · try (exfalso; omega)
        refine dW ?_; refine Wb ?_
        refine bE (fun c18 => ?_) (fun c18 => ?_)
        · try (exfalso; omega)
          refine Me ?_; refine aC (cM (hc := fun w hs => lE init hs hc)) (fun x24 h24 => ?_); refine uN ?_; refine eP ?_; refine J0 ?_; refine iM (fun x32 => ?_); refine J3 ?_; (refine fQ (fun x35 => ?_); try (refine eZ (fun h35 => ?_))); refine uN ?_; refine J0 ?_; refine iM (fun x37 => ?_); refine J3 ?_; (refine fQ (fun x40 => ?_); try (refine eZ (fun h40 => ?_))); refine uN ?_; refine aV ?_; refine dX [(0, []), (1, []), (2, []), (3, []), (4, []), (5, []), (6, []), (7, [5]), (8, []), (9, []), (10, []), (11, []), (12, [])] ?_; refine aP ?_; refine xR ?_; refine bP ?_; refine cG (h := fun x49 => ?_); ((refine cN (i := 8) (hq := (bF.eK (fJ (sz := 14) rf rf yS (by rw [dZ]) fin rfl rfl Q7 rfl (by decide) hX om) uO)) (h := fun x50 => ?_); try (refine eY (fun h50 => ?_)))); refine J4 ?_; refine aQ ?_; refine Ar ?_; refine Ew ?_; refine P4 ?_; refine J1 ?_
          refine aT Tryz.results92 (fun w hw => ?_)
          have h2 := (hw.freeze .head).freeze .head
          simp only [rC, List.nil_append] at h2
          have h3 := h2.aU (H' := [(b, _)]) (F' := [(x35.1, aG xs), (x40.1, dH ys)]) (O' := [_, _])
          exact ⟨⟨x50.1, x50.2, x24.1, x24.2, x35.1, x35.2, x40.1, x40.2⟩, rfl, trivial, by simpa [mO, aO, mW, oN, aZ.fr, fX, kB, Nd.cells, *] using h3⟩
        · try (exfalso; omega)
          refine lF ?_
          refine bE (fun c26 => ?_) (fun c26 => ?_)
          · try (exfalso; omega)
            refine Me ?_; refine aC (cM (hc := fun w hs => lE init hs hc)) (fun x30 h30 => ?_); refine uN ?_; refine eP ?_; refine J0 ?_; refine iM (fun x32 => ?_); refine J3 ?_; (refine fQ (fun x35 => ?_); try (refine eZ (fun h35 => ?_))); refine uN ?_; refine J0 ?_; refine iM (fun x37 => ?_); refine J3 ?_; (refine fQ (fun x40 => ?_); try (refine eZ (fun h40 => ?_))); refine uN ?_; refine aV ?_; refine dX [(0, []), (1, []), (2, []), (3, []), (4, []), (5, []), (6, []), (7, [5]), (8, []), (9, []), (10, []), (11, []), (12, [])] ?_; refine aP ?_; refine xR ?_; refine bP ?_; refine cG (h := fun x49 => ?_); ((refine cN (i := 8) (hq := (bF.eK (fJ (sz := 14) rf rf yS (by rw [dZ]) fin rfl rfl Q7 rfl (by decide) hX om) uO)) (h := fun x50 => ?_); try (refine eY (fun h50 => ?_)))); refine J4 ?_; refine aQ ?_; refine Ar ?_; refine Ew ?_; refine P4 ?_; refine J1 ?_
            refine aT Tryz.results92 (fun w hw => ?_)
            have h2 := (hw.freeze .head).freeze .head
            simp only [rC, List.nil_append] at h2
            have h3 := h2.aU (H' := [(b, _)]) (F' := [(x35.1, aG xs), (x40.1, dH ys)]) (O' := [_, _])
            exact ⟨⟨x50.1, x50.2, x30.1, x30.2, x35.1, x35.2, x40.1, x40.2⟩, rfl, trivial, by simpa [mO, aO, mW, oN, aZ.fr, fX, kB, Nd.cells, *] using h3⟩
          · try (exfalso; omega)
            refine oB ?_; refine J0 ?_; refine iM (fun x32 => ?_); refine J3 ?_; (refine fQ (fun x35 => ?_); try (refine eZ (fun h35 => ?_))); refine uN ?_; refine J0 ?_; refine iM (fun x37 => ?_); refine J3 ?_; (refine fQ (fun x40 => ?_); try (refine eZ (fun h40 => ?_))); refine uN ?_; refine aV ?_; refine dX [(0, []), (1, []), (2, []), (3, []), (4, []), (5, []), (6, []), (7, [5]), (8, []), (9, []), (10, []), (11, []), (12, [])] ?_; refine aP ?_; refine xR ?_; refine bP ?_; refine cG (h := fun x49 => ?_); ((refine cN (i := 8) (hq := (bF.eK (fJ (sz := 14) rf rf yS (by rw [dZ]) fin rfl rfl Q7 rfl (by decide) hX om) uO)) (h := fun x50 => ?_); try (refine eY (fun h50 => ?_)))); refine J4 ?_; refine aQ ?_; refine Ar ?_; refine Ew ?_; refine P4 ?_; refine J1 ?_
            refine aT Tryz.results92 (fun w hw => ?_)
            have h2 := (hw.freeze .head).freeze .head
            simp only [rC, List.nil_append] at h2
            have h3 := h2.aU (H' := [(b, _)]) (F' := [(x35.1, aG xs), (x40.1, dH ys)]) (O' := [_, _])
            exact ⟨⟨x50.1, x50.2, pc, cc, x35.1, x35.2, x40.1, x40.2⟩, rfl, trivial, by simpa [mO, aO, mW, oN, aZ.fr, fX, kB, Nd.cells, *] using h3⟩
theorem mU{m c:Nat}{p:Option Addr}{v1 v2 v3:Value}(hs:SF w D [(b,.cells ⟨[.slice p m c,v1,v2,v3]⟩ 139 (0,0))] A [] [] w)(hl:m<=274877906945):Calls Tryz.prog 81 #[.pointer (some ⟨b,0,none⟩)] w λ e w'=>∃q:Unit,e=.returned (.int .i64 ((m+2:Nat):Int))/\True /\
  SF w D [(b,.cells ⟨[.slice p m c,v1,v2,v3]⟩ 139 (0,0))] [] [] [] w':=by
 refine enter Tryz.func81 Tryz.ntmps81 rfl rfl hs ?_
 simp only[bY]
 refine cR ?_;refine lR ?_;refine dI ?_;refine Dd ?_;refine J1 ?_
 refine aT Tryz.results81 (λ w hw=>?_)
 exact⟨(),by rw[show(2:Int)+(m:Int)=((m+2:Nat):Int) by omega];rfl,trivial,hw.aU⟩
theorem Zr {n : Nd} {xs : List Int} {ys : List Pr} (init : Int) (hs : SF w D [(b, aO L cs gen acc pn cn pc cc)] [(n.brA, aG xs), (n.prA, dH ys)] [] (mW L cs pn cn pc cc) w) (e1 : n.brN = xs.length) (e2 : n.prN = ys.length) (h1 : xs.length ≤ 274877906944) (h2 : ys.length ≤ 274877906944)
    (hl : L.length ≤ 274877906944) (hc : cs.length ≤ 274877906944) :
    Calls Tryz.prog 29 #[.pointer (some ⟨b, 0, none⟩), n.v, .int .i64 init] w fun e w' => ∃ x : AX, e = .returned (.int .i64 ((L.length + 3 : Nat) : Int)) ∧ True ∧
      SF w D [(b, aO (L ++ [oN n xs ys cs.length x]) (fX n.kind cs init) gen acc x.pn x.cn x.pc x.cc)] [] (oN n xs ys cs.length x).fr (mW (L ++ [oN n xs ys cs.length x]) (fX n.kind cs init) x.pn x.cn x.pc x.cc) w' := by
  refine enter Tryz.func29 Tryz.ntmps29 rfl rfl (yA hs) ?_
  simp only [bY]
  simp only [Nd.v, Nd.cells]
  refine J0 ?_; refine bO (fun x4 => ?_); refine J1 ?_; refine pK ?_; refine aC (cF (V := fun p : Option Addr × Option Addr => .agg ⟨[.int .i64 n.kind, .int .i64 n.gen, .int .i64 n.main, .int .u64 n.bm, .slice p.1 n.brN xs.length, .int .u64 n.hash, .string n.key, .int .u64 n.val, .slice p.2 n.prN ys.length, .int .i64 n.prev, .int .i64 n.bN, .int .i64 n.exp, .int .i64 n.new, .int .i64 n.status]⟩) (hc := fun w1 hw => W3 (n := n) ⟨e1, e2, hw.cl (.bN .head), hw.cl (.bN (.tail .head)), by omega, by omega⟩ (by omega) (by omega))) (fun x8 h8 => ?_); refine J5 ?_; refine J0 ?_; refine aE ?_; refine jP (fun _ => ?_); refine aE ?_; refine jP (fun _ => ?_); refine uN ?_; refine Dk ?_; refine gZ ?_; refine Wb ?_
  refine bE (fun c12 => ?_) (fun c12 => ?_)
  · try (exfalso; omega)
    refine Me ?_; refine aC (cM (hc := fun w hs => zJ init hs hc)) (fun x18 h18 => ?_); refine uN ?_; refine eP ?_; refine aV ?_; refine dX [(0, []), (1, []), (2, []), (3, []), (4, []), (5, []), (6, [4]), (7, []), (8, []), (9, []), (10, [])] ?_; refine Zi ?_; refine bP ?_; refine cG (h := fun x41 => ?_); ((refine cN (i := 7) (hq := (bF.eK (fJ (sz := 14) rf rf yS (by rw [dZ]) fin rfl rfl Q7 rfl (by decide) hX om) uO)) (h := fun x42 => ?_); try (refine eY (fun h42 => ?_)))); refine J88 ?_; refine J2 ?_; refine aC (cM (hc := fun w hs => mU (m := L.length + 1) hs (by omega))) (fun x46 h46 => ?_); refine J1 ?_
    refine aT Tryz.results29 (fun w hw => ?_)
    have h3 := hw.aU (H' := [(b, _)]) (F' := [(x8.1, aG xs), (x8.2, dH ys)]) (O' := [_, _])
    exact ⟨⟨x42.1, x42.2, x18.1, x18.2, x8.1, xs.length, x8.2, ys.length⟩, rfl, trivial, by simpa [mO, aO, mW, oN, aZ.fr, fX, kB, Nd.cells, *] using h3⟩
  · try (exfalso; omega)
    refine pK ?_; refine aC (c0 (V := .bool) (hc := fun w1 hw => R6 ({ n with main := 0, prev := 0, status := 0, brA := x8.1, brC := xs.length, prA := x8.2, dH := ys.length } : Nd) w1)) (fun x22 h22 => ?_); refine J1 ?_
    refine bE (fun c20 => ?_) (fun c20 => ?_)
    · try (exfalso; omega)
      have k22 : n.kind = 3 ∨ n.kind = 5 ∨ n.kind = 6 := h22.1 c20
      rcases k22 with k22 | k22 | k22
      all_goals (refine Me ?_; refine aC (cM (hc := fun w hs => zJ init hs hc)) (fun x25 h25 => ?_); refine uN ?_; refine eP ?_; refine aV ?_; refine dX [(0, []), (1, []), (2, []), (3, []), (4, []), (5, []), (6, [4]), (7, []), (8, []), (9, []), (10, [])] ?_; refine Zi ?_; refine bP ?_; refine cG (h := fun x41 => ?_); ((refine cN (i := 7) (hq := (bF.eK (fJ (sz := 14) rf rf yS (by rw [dZ]) fin rfl rfl Q7 rfl (by decide) hX om) uO)) (h := fun x42 => ?_); try (refine eY (fun h42 => ?_)))); refine J88 ?_; refine J2 ?_; refine aC (cM (hc := fun w hs => mU (m := L.length + 1) hs (by omega))) (fun x46 h46 => ?_); refine J1 ?_)
      all_goals
       refine aT Tryz.results29 (fun w hw => ?_)
       have h3 := hw.aU (H' := [(b, _)]) (F' := [(x8.1, aG xs), (x8.2, dH ys)]) (O' := [_, _])
       exact ⟨⟨x42.1, x42.2, x25.1, x25.2, x8.1, xs.length, x8.2, ys.length⟩, rfl, trivial, by simpa [mO, aO, mW, oN, aZ.fr, fX, kB, Nd.cells, *] using h3⟩
    · try (exfalso; omega)
      have k22 : ¬ (n.kind = 3 ∨ n.kind = 5 ∨ n.kind = 6) := fun k => by rw [h22.2 k] at c20; cases c20
      obtain ⟨k3, k56⟩ := not_or.1 k22
      obtain ⟨k5, k6⟩ := not_or.1 k56
      refine gZ ?_; refine Wb ?_
      refine bE (fun c27 => ?_) (fun c27 => ?_)
      · try (exfalso; omega)
        refine Me ?_; refine aC (cM (hc := fun w hs => zJ init hs hc)) (fun x33 h33 => ?_); refine uN ?_; refine eP ?_; refine aV ?_; refine dX [(0, []), (1, []), (2, []), (3, []), (4, []), (5, []), (6, [4]), (7, []), (8, []), (9, []), (10, [])] ?_; refine Zi ?_; refine bP ?_; refine cG (h := fun x41 => ?_); ((refine cN (i := 7) (hq := (bF.eK (fJ (sz := 14) rf rf yS (by rw [dZ]) fin rfl rfl Q7 rfl (by decide) hX om) uO)) (h := fun x42 => ?_); try (refine eY (fun h42 => ?_)))); refine J88 ?_; refine J2 ?_; refine aC (cM (hc := fun w hs => mU (m := L.length + 1) hs (by omega))) (fun x46 h46 => ?_); refine J1 ?_
        refine aT Tryz.results29 (fun w hw => ?_)
        have h3 := hw.aU (H' := [(b, _)]) (F' := [(x8.1, aG xs), (x8.2, dH ys)]) (O' := [_, _])
        exact ⟨⟨x42.1, x42.2, x33.1, x33.2, x8.1, xs.length, x8.2, ys.length⟩, rfl, trivial, by simpa [mO, aO, mW, oN, aZ.fr, fX, kB, Nd.cells, *] using h3⟩
      · try (exfalso; omega)
        refine oB ?_; refine aV ?_; refine dX [(0, []), (1, []), (2, []), (3, []), (4, []), (5, []), (6, [4]), (7, []), (8, []), (9, []), (10, [])] ?_; refine Zi ?_; refine bP ?_; refine cG (h := fun x41 => ?_); ((refine cN (i := 7) (hq := (bF.eK (fJ (sz := 14) rf rf yS (by rw [dZ]) fin rfl rfl Q7 rfl (by decide) hX om) uO)) (h := fun x42 => ?_); try (refine eY (fun h42 => ?_)))); refine J88 ?_; refine J2 ?_; refine aC (cM (hc := fun w hs => mU (m := L.length + 1) hs (by omega))) (fun x46 h46 => ?_); refine J1 ?_
        refine aT Tryz.results29 (fun w hw => ?_)
        have h3 := hw.aU (H' := [(b, _)]) (F' := [(x8.1, aG xs), (x8.2, dH ys)]) (O' := [_, _])
        exact ⟨⟨x42.1, x42.2, pc, cc, x8.1, xs.length, x8.2, ys.length⟩, rfl, trivial, by simpa [mO, aO, mW, oN, aZ.fr, fX, kB, Nd.cells, *] using h3⟩
end

end Go.Proofs.YtbajmaoegmbfgaaGreat
