/- Nodes are made; lists are copied. -/
import Derived.Test.YtbajmaoegmbfgaaGreatGSlices
import Derived.Test.YtbajmaoegmbfgaaGreatGMs1

set_option linter.unusedSimpArgs false
set_option linter.unusedVariables false
namespace Go.Proofs.YtbajmaoegmbfgaaGreat
section
open Go.RowKit Go.Ct
theorem gp(o:Int)(w:World):Calls Tryz.prog 202 #[.int .i64 o] w λ e w'=>e=.returned ({Nd.zero with kind:=7,bO:=o}:Nd).v/\St w [] [] w':=by
 refine enter Tryz.func202 Tryz.ntmps202 rfl rfl (SF.s0 w) ?_
 simp only[bY]
 refine J0 ?_;refine aI (λ x2=>?_);refine aG ?_;refine J2 ?_;refine xJ ?_
 refine bC Tryz.results202 (λ w hw=>?_)
 exact⟨rfl,hw.done⟩
theorem SF.frz{w w':World}{F:Fr}{o:Ow}(h:SF w [] [] [] F [o] w'):SF w [] [] [] ((o.p,o.cs)::F) [] w':=h.freeze .head (by simp)
theorem SF.aBI{w w':World}{F:Fr}{o o2:Ow}(h:SF w [] [] [] F [o,o2] w'):SF w [] [] [] ((o2.p,o2.cs)::(o.p,o.cs)::F) [] w':=(h.freeze .head (by simp)).freeze .head (by simp)
theorem Rx:wA Tryz.prog 164 24=true:=by kernel_rfl
theorem W5:wA Tryz.prog 37 8=true:=by kernel_rfl
theorem X5{l:List Pr}{a:Option Addr}{c:Nat}{w:World}(ha:Cl w a (dE l))(hl:l.length<=11728124029610):Calls Tryz.prog 124 #[.slice a l.length c] w λ e w' =>
  ∃p:Option Addr,e=.returned (.slice p l.length l.length)/\(l=[]->p=none)/\SF w [] [] [] [] [⟨p,dE l,l.length,164,2⟩] w':=by
 refine enter Tryz.func124 Tryz.ntmps124 rfl rfl (SF.s1 ha) ?_
 simp only[bY]
 refine cQ ?_;refine kK ?_;refine dG ?_;refine tN ?_
 refine bE (λ c6=>?_) (λ c6=>?_)
 ·have hl0:l=[]:=List.eq_nil_of_length_eq_zero (by omega)
  subst hl0
  refine cQ ?_
  refine aT Tryz.results124 (λ w hw=>?_)
  exact⟨none,rfl,λ _=>rfl,(hw.lZ 164 2).aU⟩
 ·refine aZ ?_;refine J2 ?_;refine dG ?_;refine aQ (dx rf rf ep1 Rx om om) (λ x9=>?_);refine vP ?_;refine fl (λ x12=>?_);refine aG ?_;refine J2 ?_;refine J1 ?_
  refine aT Tryz.results124 (λ w hw=>?_)
  exact⟨some ⟨x9,0,none⟩,rfl,λ h=>absurd (congrArg List.length h) (by simpa using c6),by simpa using hw.aU (H':=[]) (F':=[])⟩
theorem Xq{l:List Int}{a:Option Addr}{c:Nat}{w:World}(ha:Cl w a (aH l))(hl:l.length<=35184372088832):Calls Tryz.prog 123 #[.slice a l.length c] w λ e w' =>
  ∃p:Option Addr,e=.returned (.slice p l.length l.length)/\(l=[]->p=none)/\SF w [] [] [] [] [⟨p,aH l,l.length,37,1⟩] w':=by
 refine enter Tryz.func123 Tryz.ntmps123 rfl rfl (SF.s1 ha) ?_
 simp only[bY]
 refine cQ ?_;refine kK ?_;refine dG ?_;refine tN ?_
 refine bE (λ c6=>?_) (λ c6=>?_)
 ·have hl0:l=[]:=List.eq_nil_of_length_eq_zero (by omega)
  subst hl0
  refine cQ ?_
  refine aT Tryz.results123 (λ w hw=>?_)
  exact⟨none,rfl,λ _=>rfl,(hw.lZ 37 1).aU⟩
 ·refine aZ ?_;refine J2 ?_;refine dG ?_;refine aQ (ep rf rf l7 W5 om om) (λ x9=>?_);refine vP ?_;refine fl (λ x12=>?_);refine aG ?_;refine J2 ?_;refine J1 ?_
  refine aT Tryz.results123 (λ w hw=>?_)
  exact⟨some ⟨x9,0,none⟩,rfl,λ h=>absurd (congrArg List.length h) (by simpa using c6),by simpa using hw.aU (H':=[]) (F':=[])⟩
theorem Uh{n:Nd}{xs:List Int}{ys:List Pr}{w:World}(hr:qI w n xs ys)(h1:xs.length<=35184372088832)(h2:ys.length<=11728124029610):Calls Tryz.prog 78 #[n.v] w λ e w' =>
  ∃p:Option Addr×Option Addr,e=.returned ({n with brA:=p.1,brC:=xs.length,prA:=p.2,dE:=ys.length}:Nd).v/\((xs=[]->p.1=none)/\(ys=[]->p.2=none))/\SF w [] [] [] [] [⟨p.2,dE ys,ys.length,164,2⟩,⟨p.1,aH xs,xs.length,37,1⟩] w':=by
 have e1:=hr.brN;have e2:=hr.prN
 refine enter Tryz.func78 Tryz.ntmps78 rfl rfl (SF.s2 hr.br hr.pr) ?_
 simp only[bY]
 simp only[Nd.v,Nd.cells]
 refine J0 ?_;refine bN (λ x1=>?_);refine aI (λ x2=>?_);refine aG ?_;refine hJ ?_;refine aC (Ra (Hc:=λ _=>[]) (Fc:=λ _=>[]) (hc:=λ w1 hw=>by rw[e1];exact Xq (hw.cl fin) h1)) (λ x5 h5=>?_);refine uE ?_;refine hJ ?_;refine aC (Ra (Hc:=λ _=>[]) (Fc:=λ _=>[]) (hc:=λ w1 hw=>by rw[e2];exact X5 (hw.cl fin) h2)) (λ x9 h9=>?_);refine uE ?_;refine oV ?_;refine J5 ?_
 refine bC Tryz.results78 (λ w hw=>?_)
 exact⟨(x5,x9),by rw[e1,e2];rfl,⟨h5,h9⟩,hw.aU⟩
theorem Vc{n:Nd}{xs:List Int}{ys:List Pr}{w:World}(hr:qI w n xs ys)(h1:xs.length<=35184372088832)(h2:ys.length<=11728124029610):Calls Tryz.prog 78 #[n.v] w λ e w' =>
  ∃p:Option Addr×Option Addr,e=.returned ({n with brA:=p.1,brC:=xs.length,prA:=p.2,dE:=ys.length}:Nd).v/\((xs=[]->p.1=none)/\(ys=[]->p.2=none))/\SF w [] [] [] [(p.1,aH xs),(p.2,dE ys)] [] w':=(Uh hr h1 h2).mono λ _ _ ⟨p,he,hp,hs⟩=>⟨p,he,hp,SF.aBI hs⟩
end

/- Nodes of memories: New, Node, Alloc. -/
end Go.Proofs.YtbajmaoegmbfgaaGreat
namespace Go.Ct
section
def eY:aY:=⟨{Nd.zero with kind:=1},[],[]⟩
def aD(L:List aY)(r:Int):aY:=if 1<=r/\r<=L.length then L.getD (r-1).toNat aY.zero else aY.zero
theorem uI{L:List aY}{r:Int}(h:¬(1<=r/\r<=L.length)):aD L r=aY.zero:=if_neg h
theorem Ah{L:List aY}{k:Nat}(h:k<L.length):aD L ((k+1:Nat):Int)=L.getD k aY.zero:=by
 unfold aD
 rw[if_pos (by omega),show(((k+1:Nat):Int)-1).toNat=k by omega]
def cB(L:List aY):List aY:=eY::eY::L
theorem fN(L:List aY):(cB L).length=L.length+2:=rfl
theorem Oz:eY.Fit:=⟨rfl,rfl,by decide,by decide⟩
theorem Fits.all{L:List aY}(h:Fits L):Fits (cB L):=λ v hv=>by
 simp only[cB,List.mem_cons] at hv
 rcases hv with rfl|rfl|hv
 ·exact Oz
 ·exact Oz
 ·exact h v hv
theorem Ca{L:List aY}(h:Fits L)(r:Int):(aD L r).Fit:=by
 unfold aD
 split
 ·rename_i hr
  exact h.at (by omega)
 ·exact M4
structure AX where
 pn:Option Addr
 cn:Nat
 pc:Option Addr
 cc:Nat
 b1:Option Addr
 c1:Nat
 b2:Option Addr
 c2:Nat
def gF(k:Int)(cs:List Int)(init:Int):List Int:=if k=2∨k=3∨k=5∨k=6∨k=8 then cs++[init] else cs
def oE(n:Nd)(xs:List Int)(ys:List Pr)(c:Nat)(x:AX):aY :=
 aY.mk {n with main:=if n.kind=2 then((c+1:Nat):Int) else 0,prev:=if n.kind=3∨n.kind=5∨n.kind=6 then((c+1:Nat):Int) else 0,status:=if n.kind=8 then((c+1:Nat):Int) else 0,brA:=x.b1,brN:=xs.length,brC:=x.c1,prA:=x.b2,prN:=ys.length,dE:=x.c2} xs ys
theorem lM{k:Int}{cs:List Int}{init:Int}:cs.length<=(gF k cs init).length/\(gF k cs init).length<=cs.length+1:=by unfold gF;split<;>simp
theorem Lv{n:Nd}{xs:List Int}{ys:List Pr}{c:Nat}{x:AX}(h1:xs.length<=35184372088832)(h2:ys.length<=11728124029610):(oE n xs ys c x).Fit:=⟨rfl,rfl,h1,h2⟩
def aY.at_(v:aY)(p q:Option Addr):aY:=⟨{v.nd with brA:=p,brC:=v.xs.length,prA:=q,dE:=v.ys.length},v.xs,v.ys⟩
theorem aY.Sc{v:aY}(h:v.Fit)(p q:Option Addr):(v.at_ p q).Fit:=⟨h.brN,h.prN,h.brS,h.prS⟩
end
end Go.Ct
namespace Go.Proofs.YtbajmaoegmbfgaaGreat
section
open Go.RowKit Go.Ct
variable{w:World}{D:List Nat}{b:Nat}{L:List aY}{cs:List Int}{gen acc:Int}{pn pc:Option Addr}{cn cc:Nat}{A:Fr}
theorem au(w:World):Calls Tryz.prog 64 #[] w λ e w'=>∃q:Nat×Option Addr,e=.returned (.pointer (some ⟨q.1,0,none⟩))/\True /\
  SF w [] [(q.1,mO [eY,eY] [] 0 0 q.2 2 none 0)] [] [] (mW [eY,eY] [] q.2 2 none 0) w':=by
 refine enter Tryz.func64 Tryz.ntmps64 rfl rfl (SF.s0 w) ?_
 simp only[bY]
 refine cQ ?_;refine J0 ?_;refine bJ ?_;refine bJ ?_;refine aQ (Sa (c:=2) (sz:=14) rfl (λ _=>cP rF Jp rfl rfl rfl rfl (by simp only[Cy,mR,List.cons_append,List.nil_append];exact rfl))) (λ x3=>?_);refine bJ ?_;refine bJ ?_;refine bN (λ x6=>?_);refine J1 ?_
 refine aT Tryz.results64 (λ w hw=>?_)
 exact⟨(x6,some ⟨x3,0,none⟩),rfl,trivial,(SF.cf (hw.lZ 37 1)).aU⟩
theorem cp(hs:SF w D [(b,mO L cs gen acc pn cn pc cc)] A [] (mW L cs pn cn pc cc) w)(r:Int)(hr:r<1):Calls Tryz.prog 25 #[.pointer (some ⟨b,0,none⟩),.int .i64 r] w λ e w'=>∃q:Unit,e=.returned (aD L r).nd.v/\True /\
  SF w D [(b,mO L cs gen acc pn cn pc cc)] [] [] (mW L cs pn cn pc cc) w':=by
 refine enter Tryz.func25 Tryz.ntmps25 rfl rfl (xP hs) ?_
 simp only[bY]
 refine J0 ?_;refine aI (λ x4=>?_);refine aG ?_;refine kK ?_;refine G7 ?_
 (refine eM 7 (λ g7=>?_) (λ g7=>?_)<;>(try (exfalso;omega))<;>(refine aJ ?_))
 refine yq ?_;refine l8 ?_;refine Iz ?_;refine aG ?_
 refine bE (λ c16=>?_) (λ c16=>?_)
 ·try (exfalso;omega)
  refine J0 ?_;refine xJ ?_
  refine bC Tryz.results25 (λ w hw=>?_)
  exact⟨(),by rw[uI (by omega)];rfl,trivial,hw.aU⟩
 ·exact nv c16
theorem jd(hs:SF w D [(b,mO L cs gen acc pn cn pc cc)] A [] (mW L cs pn cn pc cc) w){k:Nat}(hk:(k:Int)<9223372036854775807)(hl:L.length<=274877906944):Calls Tryz.prog 25 #[.pointer (some ⟨b,0,none⟩),.int .i64 ((k+1:Nat):Int)] w λ e w'=>∃q:Unit,e=.returned (aD L ((k+1:Nat):Int)).nd.v/\True /\
  SF w D [(b,mO L cs gen acc pn cn pc cc)] [] [] (mW L cs pn cn pc cc) w':=by
 refine enter Tryz.func25 Tryz.ntmps25 rfl rfl (xP hs) ?_
 simp only[bY]
 refine J0 ?_;refine aI (λ x4=>?_);refine aG ?_;refine kK ?_;refine G7 ?_
 (refine aF ?_;refine aA ?_)
 refine yq ?_;refine l8 ?_;refine Iz ?_;refine aG ?_
 refine bE (λ c16=>?_) (λ c16=>?_)
 ·try (exfalso;omega)
  refine J0 ?_;refine xJ ?_
  refine bC Tryz.results25 (λ w hw=>?_)
  (exact⟨(),by rw[uI (by omega)];rfl,trivial,hw.aU⟩)
 ·try (exfalso;omega)
  refine aZ ?_;refine Eb ?_;refine J3 ?_;refine aA ?_;refine vF ?_;refine Yd ?_;refine J5 ?_
  refine bC Tryz.results25 (λ w hw=>?_)
  (exact⟨(),by rw[Ah (by omega)];rfl,trivial,hw.aU⟩)
theorem o8(hs:SF w D [(b,mO L cs gen acc pn cn pc cc)] A [] (mW L cs pn cn pc cc) w)(r:Int)(hr:r<=9223372036854775807)(hl:L.length<=274877906944):Calls Tryz.prog 25 #[.pointer (some ⟨b,0,none⟩),.int .i64 r] w λ e w'=>∃q:Unit,e=.returned (aD L r).nd.v/\True /\
  SF w D [(b,mO L cs gen acc pn cn pc cc)] [] [] (mW L cs pn cn pc cc) w':=by
 rcases Int.lt_or_le r 1 with h|h
 ·exact cp hs r h
 ·obtain⟨k,rfl⟩:∃k:Nat,r=((k+1:Nat):Int):=⟨(r-1).toNat,by omega⟩
  exact jd hs (by omega) hl
end

/- Alloc of the two memories. -/
section
open Go.RowKit Go.Ct
variable{w:World}{D:List Nat}{b:Nat}{L:List aY}{cs:List Int}{gen acc:Int}{pn pc:Option Addr}{cn cc:Nat}{A:Fr}
theorem Fm {n : Nd} {xs : List Int} {ys : List Pr} (init : Int) (hs : SF w D [(b, mO L cs gen acc pn cn pc cc)] [(n.brA, aH xs), (n.prA, dE ys)] [] (mW L cs pn cn pc cc) w) (e1 : n.brN = xs.length) (e2 : n.prN = ys.length) (h1 : xs.length ≤ 274877906944) (h2 : ys.length ≤ 274877906944)
    (hl : L.length ≤ 274877906944) (hc : cs.length ≤ 274877906944) :
    Calls Tryz.prog 92 #[.pointer (some ⟨b, 0, none⟩), n.v, .int .i64 init] w fun e w' => ∃ x : AX, e = .returned (.int .i64 ((L.length + 1 : Nat) : Int)) ∧ True ∧
      SF w D [(b, mO (L ++ [oE n xs ys cs.length x]) (gF n.kind cs init) gen acc x.pn x.cn x.pc x.cc)] [] (oE n xs ys cs.length x).fr (mW (L ++ [oE n xs ys cs.length x]) (gF n.kind cs init) x.pn x.cn x.pc x.cc) w' := by
  refine enter Tryz.func92 Tryz.ntmps92 rfl rfl (xP hs) ?_
  simp only [bY]
  simp only [Nd.v, Nd.cells]
  refine J0 ?_; refine bN (fun x4 => ?_); refine J1 ?_; refine J0 ?_; refine aE ?_; refine jI (fun _ => ?_); refine aE ?_; refine jI (fun _ => ?_); refine uE ?_; refine Ci ?_; refine aG ?_; refine cO ?_; refine lA ?_
  refine bE (fun c12 => ?_) (fun c12 => ?_)
  · try (exfalso; omega)
    refine Lq ?_; refine aC (cM (hc := fun w hs => lD init hs hc)) (fun x16 h16 => ?_); refine uE ?_; refine eU ?_; refine J0 ?_; refine iI (fun x32 => ?_); refine J3 ?_; (refine fO (fun x35 => ?_); try (refine eX (fun h35 => ?_))); refine uE ?_; refine J0 ?_; refine iI (fun x37 => ?_); refine J3 ?_; (refine fO (fun x40 => ?_); try (refine eX (fun h40 => ?_))); refine uE ?_; refine aV ?_; refine dZ [(0, []), (1, []), (2, []), (3, []), (4, []), (5, []), (6, []), (7, [5]), (8, []), (9, []), (10, []), (11, []), (12, [])] ?_; refine aN ?_; refine xF ?_; refine bP ?_; refine cE (h := fun x49 => ?_); ((refine cL (i := 8) (hq := (bF.eN (fV (sz := 14) rf rf zH (by rw [dX]) fin rfl rfl Qd rfl (by decide) hY om) vJ)) (h := fun x50 => ?_); try (refine eW (fun h50 => ?_)))); refine J4 ?_; refine aR ?_; refine Ag ?_; refine Eb ?_; refine My ?_; refine J1 ?_
    refine aT Tryz.results92 (fun w hw => ?_)
    have h2 := (hw.freeze .head).freeze .head
    simp only [qS, List.nil_append] at h2
    have h3 := h2.aU (H' := [(b, _)]) (F' := [(x35.1, aH xs), (x40.1, dE ys)]) (O' := [_, _])
    exact ⟨⟨x50.1, x50.2, x16.1, x16.2, x35.1, x35.2, x40.1, x40.2⟩, rfl, trivial, by simpa [mO, aO, mW, oE, aY.fr, gF, jS, Nd.cells, *] using h3⟩
  · try (exfalso; omega)
    refine aV ?_; refine lA ?_
    refine bE (fun c18 => ?_) (fun c18 => ?_)
    · try (exfalso; omega)
      refine aZ ?_
      refine bE (fun c18 => ?_) (fun c18 => ?_)
      · try (exfalso; omega)
        refine Lq ?_; refine aC (cM (hc := fun w hs => lD init hs hc)) (fun x24 h24 => ?_); refine uE ?_; refine eU ?_; refine J0 ?_; refine iI (fun x32 => ?_); refine J3 ?_; (refine fO (fun x35 => ?_); try (refine eX (fun h35 => ?_))); refine uE ?_; refine J0 ?_; refine iI (fun x37 => ?_); refine J3 ?_; (refine fO (fun x40 => ?_); try (refine eX (fun h40 => ?_))); refine uE ?_; refine aV ?_; refine dZ [(0, []), (1, []), (2, []), (3, []), (4, []), (5, []), (6, []), (7, [5]), (8, []), (9, []), (10, []), (11, []), (12, [])] ?_; refine aN ?_; refine xF ?_; refine bP ?_; refine cE (h := fun x49 => ?_); ((refine cL (i := 8) (hq := (bF.eN (fV (sz := 14) rf rf zH (by rw [dX]) fin rfl rfl Qd rfl (by decide) hY om) vJ)) (h := fun x50 => ?_); try (refine eW (fun h50 => ?_)))); refine J4 ?_; refine aR ?_; refine Ag ?_; refine Eb ?_; refine My ?_; refine J1 ?_
        refine aT Tryz.results92 (fun w hw => ?_)
        have h2 := (hw.freeze .head).freeze .head
        simp only [qS, List.nil_append] at h2
        have h3 := h2.aU (H' := [(b, _)]) (F' := [(x35.1, aH xs), (x40.1, dE ys)]) (O' := [_, _])
        exact ⟨⟨x50.1, x50.2, x24.1, x24.2, x35.1, x35.2, x40.1, x40.2⟩, rfl, trivial, by simpa [mO, aO, mW, oE, aY.fr, gF, jS, Nd.cells, *] using h3⟩
      · try (exfalso; omega)
    · try (exfalso; omega)
      refine lA ?_
      refine bE (fun c18 => ?_) (fun c18 => ?_)
      · try (exfalso; omega)
        refine aZ ?_
        refine bE (fun c18 => ?_) (fun c18 => ?_)
        · try (exfalso; omega)
          refine Lq ?_; refine aC (cM (hc := fun w hs => lD init hs hc)) (fun x24 h24 => ?_); refine uE ?_; refine eU ?_; refine J0 ?_; refine iI (fun x32 => ?_); refine J3 ?_; (refine fO (fun x35 => ?_); try (refine eX (fun h35 => ?_))); refine uE ?_; refine J0 ?_; refine iI (fun x37 => ?_); refine J3 ?_; (refine fO (fun x40 => ?_); try (refine eX (fun h40 => ?_))); refine uE ?_; refine aV ?_; refine dZ [(0, []), (1, []), (2, []), (3, []), (4, []), (5, []), (6, []), (7, [5]), (8, []), (9, []), (10, []), (11, []), (12, [])] ?_; refine aN ?_; refine xF ?_; refine bP ?_; refine cE (h := fun x49 => ?_); ((refine cL (i := 8) (hq := (bF.eN (fV (sz := 14) rf rf zH (by rw [dX]) fin rfl rfl Qd rfl (by decide) hY om) vJ)) (h := fun x50 => ?_); try (refine eW (fun h50 => ?_)))); refine J4 ?_; refine aR ?_; refine Ag ?_; refine Eb ?_; refine My ?_; refine J1 ?_
          refine aT Tryz.results92 (fun w hw => ?_)
          have h2 := (hw.freeze .head).freeze .head
          simp only [qS, List.nil_append] at h2
          have h3 := h2.aU (H' := [(b, _)]) (F' := [(x35.1, aH xs), (x40.1, dE ys)]) (O' := [_, _])
          exact ⟨⟨x50.1, x50.2, x24.1, x24.2, x35.1, x35.2, x40.1, x40.2⟩, rfl, trivial, by simpa [mO, aO, mW, oE, aY.fr, gF, jS, Nd.cells, *] using h3⟩
        · try (exfalso; omega)
      · try (exfalso; omega)
        refine dW ?_; refine Td ?_
        refine bE (fun c18 => ?_) (fun c18 => ?_)
        · try (exfalso; omega)
          refine Lq ?_; refine aC (cM (hc := fun w hs => lD init hs hc)) (fun x24 h24 => ?_); refine uE ?_; refine eU ?_; refine J0 ?_; refine iI (fun x32 => ?_); refine J3 ?_; (refine fO (fun x35 => ?_); try (refine eX (fun h35 => ?_))); refine uE ?_; refine J0 ?_; refine iI (fun x37 => ?_); refine J3 ?_; (refine fO (fun x40 => ?_); try (refine eX (fun h40 => ?_))); refine uE ?_; refine aV ?_; refine dZ [(0, []), (1, []), (2, []), (3, []), (4, []), (5, []), (6, []), (7, [5]), (8, []), (9, []), (10, []), (11, []), (12, [])] ?_; refine aN ?_; refine xF ?_; refine bP ?_; refine cE (h := fun x49 => ?_); ((refine cL (i := 8) (hq := (bF.eN (fV (sz := 14) rf rf zH (by rw [dX]) fin rfl rfl Qd rfl (by decide) hY om) vJ)) (h := fun x50 => ?_); try (refine eW (fun h50 => ?_)))); refine J4 ?_; refine aR ?_; refine Ag ?_; refine Eb ?_; refine My ?_; refine J1 ?_
          refine aT Tryz.results92 (fun w hw => ?_)
          have h2 := (hw.freeze .head).freeze .head
          simp only [qS, List.nil_append] at h2
          have h3 := h2.aU (H' := [(b, _)]) (F' := [(x35.1, aH xs), (x40.1, dE ys)]) (O' := [_, _])
          exact ⟨⟨x50.1, x50.2, x24.1, x24.2, x35.1, x35.2, x40.1, x40.2⟩, rfl, trivial, by simpa [mO, aO, mW, oE, aY.fr, gF, jS, Nd.cells, *] using h3⟩
        · try (exfalso; omega)
          refine lA ?_
          refine bE (fun c26 => ?_) (fun c26 => ?_)
          · try (exfalso; omega)
            refine Lq ?_; refine aC (cM (hc := fun w hs => lD init hs hc)) (fun x30 h30 => ?_); refine uE ?_; refine eU ?_; refine J0 ?_; refine iI (fun x32 => ?_); refine J3 ?_; (refine fO (fun x35 => ?_); try (refine eX (fun h35 => ?_))); refine uE ?_; refine J0 ?_; refine iI (fun x37 => ?_); refine J3 ?_; (refine fO (fun x40 => ?_); try (refine eX (fun h40 => ?_))); refine uE ?_; refine aV ?_; refine dZ [(0, []), (1, []), (2, []), (3, []), (4, []), (5, []), (6, []), (7, [5]), (8, []), (9, []), (10, []), (11, []), (12, [])] ?_; refine aN ?_; refine xF ?_; refine bP ?_; refine cE (h := fun x49 => ?_); ((refine cL (i := 8) (hq := (bF.eN (fV (sz := 14) rf rf zH (by rw [dX]) fin rfl rfl Qd rfl (by decide) hY om) vJ)) (h := fun x50 => ?_); try (refine eW (fun h50 => ?_)))); refine J4 ?_; refine aR ?_; refine Ag ?_; refine Eb ?_; refine My ?_; refine J1 ?_
            refine aT Tryz.results92 (fun w hw => ?_)
            have h2 := (hw.freeze .head).freeze .head
            simp only [qS, List.nil_append] at h2
            have h3 := h2.aU (H' := [(b, _)]) (F' := [(x35.1, aH xs), (x40.1, dE ys)]) (O' := [_, _])
            exact ⟨⟨x50.1, x50.2, x30.1, x30.2, x35.1, x35.2, x40.1, x40.2⟩, rfl, trivial, by simpa [mO, aO, mW, oE, aY.fr, gF, jS, Nd.cells, *] using h3⟩
          · try (exfalso; omega)
            refine nY ?_; refine J0 ?_; refine iI (fun x32 => ?_); refine J3 ?_; (refine fO (fun x35 => ?_); try (refine eX (fun h35 => ?_))); refine uE ?_; refine J0 ?_; refine iI (fun x37 => ?_); refine J3 ?_; (refine fO (fun x40 => ?_); try (refine eX (fun h40 => ?_))); refine uE ?_; refine aV ?_; refine dZ [(0, []), (1, []), (2, []), (3, []), (4, []), (5, []), (6, []), (7, [5]), (8, []), (9, []), (10, []), (11, []), (12, [])] ?_; refine aN ?_; refine xF ?_; refine bP ?_; refine cE (h := fun x49 => ?_); ((refine cL (i := 8) (hq := (bF.eN (fV (sz := 14) rf rf zH (by rw [dX]) fin rfl rfl Qd rfl (by decide) hY om) vJ)) (h := fun x50 => ?_); try (refine eW (fun h50 => ?_)))); refine J4 ?_; refine aR ?_; refine Ag ?_; refine Eb ?_; refine My ?_; refine J1 ?_
            refine aT Tryz.results92 (fun w hw => ?_)
            have h2 := (hw.freeze .head).freeze .head
            simp only [qS, List.nil_append] at h2
            have h3 := h2.aU (H' := [(b, _)]) (F' := [(x35.1, aH xs), (x40.1, dE ys)]) (O' := [_, _])
            exact ⟨⟨x50.1, x50.2, pc, cc, x35.1, x35.2, x40.1, x40.2⟩, rfl, trivial, by simpa [mO, aO, mW, oE, aY.fr, gF, jS, Nd.cells, *] using h3⟩
theorem mX{m c:Nat}{p:Option Addr}{v1 v2 v3:Value}(hs:SF w D [(b,.cells ⟨[.slice p m c,v1,v2,v3]⟩ 139 (0,0))] A [] [] w)(hl:m<=274877906945):Calls Tryz.prog 81 #[.pointer (some ⟨b,0,none⟩)] w λ e w'=>∃q:Unit,e=.returned (.int .i64 ((m+2:Nat):Int))/\True /\
  SF w D [(b,.cells ⟨[.slice p m c,v1,v2,v3]⟩ 139 (0,0))] [] [] [] w':=by
 refine enter Tryz.func81 Tryz.ntmps81 rfl rfl hs ?_
 simp only[bY]
 refine cQ ?_;refine lR ?_;refine dG ?_;refine C5 ?_;refine J1 ?_
 refine aT Tryz.results81 (λ w hw=>?_)
 exact⟨(),by rw[show(2:Int)+(m:Int)=((m+2:Nat):Int) by omega];rfl,trivial,hw.aU⟩
theorem fj {n : Nd} {xs : List Int} {ys : List Pr} (init : Int) (hs : SF w D [(b, aO L cs gen acc pn cn pc cc)] [(n.brA, aH xs), (n.prA, dE ys)] [] (mW L cs pn cn pc cc) w) (e1 : n.brN = xs.length) (e2 : n.prN = ys.length) (h1 : xs.length ≤ 274877906944) (h2 : ys.length ≤ 274877906944)
    (hl : L.length ≤ 274877906944) (hc : cs.length ≤ 274877906944) :
    Calls Tryz.prog 29 #[.pointer (some ⟨b, 0, none⟩), n.v, .int .i64 init] w fun e w' => ∃ x : AX, e = .returned (.int .i64 ((L.length + 3 : Nat) : Int)) ∧ True ∧
      SF w D [(b, aO (L ++ [oE n xs ys cs.length x]) (gF n.kind cs init) gen acc x.pn x.cn x.pc x.cc)] [] (oE n xs ys cs.length x).fr (mW (L ++ [oE n xs ys cs.length x]) (gF n.kind cs init) x.pn x.cn x.pc x.cc) w' := by
  refine enter Tryz.func29 Tryz.ntmps29 rfl rfl (xN hs) ?_
  simp only [bY]
  simp only [Nd.v, Nd.cells]
  refine J0 ?_; refine bN (fun x4 => ?_); refine J1 ?_; refine oV ?_; refine aC (cF (V := fun p : Option Addr × Option Addr => .agg ⟨[.int .i64 n.kind, .int .i64 n.gen, .int .i64 n.main, .int .u64 n.bm, .slice p.1 n.brN xs.length, .int .u64 n.hash, .string n.key, .int .u64 n.val, .slice p.2 n.prN ys.length, .int .i64 n.prev, .int .i64 n.bO, .int .i64 n.exp, .int .i64 n.new, .int .i64 n.status]⟩) (hc := fun w1 hw => Vc (n := n) ⟨e1, e2, hw.cl (.bO .head), hw.cl (.bO (.tail .head)), by omega, by omega⟩ (by omega) (by omega))) (fun x8 h8 => ?_); refine J5 ?_; refine J0 ?_; refine aE ?_; refine jI (fun _ => ?_); refine aE ?_; refine jI (fun _ => ?_); refine uE ?_; refine C7 ?_; refine hJ ?_; refine Td ?_
  refine bE (fun c12 => ?_) (fun c12 => ?_)
  · try (exfalso; omega)
    refine Lq ?_; refine aC (cM (hc := fun w hs => yZ init hs hc)) (fun x18 h18 => ?_); refine uE ?_; refine eU ?_; refine aV ?_; refine dZ [(0, []), (1, []), (2, []), (3, []), (4, []), (5, []), (6, [4]), (7, []), (8, []), (9, []), (10, [])] ?_; refine Yu ?_; refine bP ?_; refine cE (h := fun x41 => ?_); ((refine cL (i := 7) (hq := (bF.eN (fV (sz := 14) rf rf zH (by rw [dX]) fin rfl rfl Qd rfl (by decide) hY om) vJ)) (h := fun x42 => ?_); try (refine eW (fun h42 => ?_)))); refine z0 ?_; refine J2 ?_; refine aC (cM (hc := fun w hs => mX (m := L.length + 1) hs (by omega))) (fun x46 h46 => ?_); refine J1 ?_
    refine aT Tryz.results29 (fun w hw => ?_)
    have h3 := hw.aU (H' := [(b, _)]) (F' := [(x8.1, aH xs), (x8.2, dE ys)]) (O' := [_, _])
    exact ⟨⟨x42.1, x42.2, x18.1, x18.2, x8.1, xs.length, x8.2, ys.length⟩, rfl, trivial, by simpa [mO, aO, mW, oE, aY.fr, gF, jS, Nd.cells, *] using h3⟩
  · try (exfalso; omega)
    refine oV ?_; refine aC (c0 (V := .bool) (hc := fun w1 hw => S2 ({ n with main := 0, prev := 0, status := 0, brA := x8.1, brC := xs.length, prA := x8.2, dE := ys.length } : Nd) w1)) (fun x22 h22 => ?_); refine J1 ?_
    refine bE (fun c20 => ?_) (fun c20 => ?_)
    · try (exfalso; omega)
      have k22 : n.kind = 3 ∨ n.kind = 5 ∨ n.kind = 6 := h22.1 c20
      rcases k22 with k22 | k22 | k22
      all_goals (refine Lq ?_; refine aC (cM (hc := fun w hs => yZ init hs hc)) (fun x25 h25 => ?_); refine uE ?_; refine eU ?_; refine aV ?_; refine dZ [(0, []), (1, []), (2, []), (3, []), (4, []), (5, []), (6, [4]), (7, []), (8, []), (9, []), (10, [])] ?_; refine Yu ?_; refine bP ?_; refine cE (h := fun x41 => ?_); ((refine cL (i := 7) (hq := (bF.eN (fV (sz := 14) rf rf zH (by rw [dX]) fin rfl rfl Qd rfl (by decide) hY om) vJ)) (h := fun x42 => ?_); try (refine eW (fun h42 => ?_)))); refine z0 ?_; refine J2 ?_; refine aC (cM (hc := fun w hs => mX (m := L.length + 1) hs (by omega))) (fun x46 h46 => ?_); refine J1 ?_)
      all_goals
       refine aT Tryz.results29 (fun w hw => ?_)
       have h3 := hw.aU (H' := [(b, _)]) (F' := [(x8.1, aH xs), (x8.2, dE ys)]) (O' := [_, _])
       exact ⟨⟨x42.1, x42.2, x25.1, x25.2, x8.1, xs.length, x8.2, ys.length⟩, rfl, trivial, by simpa [mO, aO, mW, oE, aY.fr, gF, jS, Nd.cells, *] using h3⟩
    · try (exfalso; omega)
      have k22 : ¬ (n.kind = 3 ∨ n.kind = 5 ∨ n.kind = 6) := fun k => by rw [h22.2 k] at c20; cases c20
      obtain ⟨k3, k56⟩ := not_or.1 k22
      obtain ⟨k5, k6⟩ := not_or.1 k56
      refine hJ ?_; refine Td ?_
      refine bE (fun c27 => ?_) (fun c27 => ?_)
      · try (exfalso; omega)
        refine Lq ?_; refine aC (cM (hc := fun w hs => yZ init hs hc)) (fun x33 h33 => ?_); refine uE ?_; refine eU ?_; refine aV ?_; refine dZ [(0, []), (1, []), (2, []), (3, []), (4, []), (5, []), (6, [4]), (7, []), (8, []), (9, []), (10, [])] ?_; refine Yu ?_; refine bP ?_; refine cE (h := fun x41 => ?_); ((refine cL (i := 7) (hq := (bF.eN (fV (sz := 14) rf rf zH (by rw [dX]) fin rfl rfl Qd rfl (by decide) hY om) vJ)) (h := fun x42 => ?_); try (refine eW (fun h42 => ?_)))); refine z0 ?_; refine J2 ?_; refine aC (cM (hc := fun w hs => mX (m := L.length + 1) hs (by omega))) (fun x46 h46 => ?_); refine J1 ?_
        refine aT Tryz.results29 (fun w hw => ?_)
        have h3 := hw.aU (H' := [(b, _)]) (F' := [(x8.1, aH xs), (x8.2, dE ys)]) (O' := [_, _])
        exact ⟨⟨x42.1, x42.2, x33.1, x33.2, x8.1, xs.length, x8.2, ys.length⟩, rfl, trivial, by simpa [mO, aO, mW, oE, aY.fr, gF, jS, Nd.cells, *] using h3⟩
      · try (exfalso; omega)
        refine nY ?_; refine aV ?_; refine dZ [(0, []), (1, []), (2, []), (3, []), (4, []), (5, []), (6, [4]), (7, []), (8, []), (9, []), (10, [])] ?_; refine Yu ?_; refine bP ?_; refine cE (h := fun x41 => ?_); ((refine cL (i := 7) (hq := (bF.eN (fV (sz := 14) rf rf zH (by rw [dX]) fin rfl rfl Qd rfl (by decide) hY om) vJ)) (h := fun x42 => ?_); try (refine eW (fun h42 => ?_)))); refine z0 ?_; refine J2 ?_; refine aC (cM (hc := fun w hs => mX (m := L.length + 1) hs (by omega))) (fun x46 h46 => ?_); refine J1 ?_
        refine aT Tryz.results29 (fun w hw => ?_)
        have h3 := hw.aU (H' := [(b, _)]) (F' := [(x8.1, aH xs), (x8.2, dE ys)]) (O' := [_, _])
        exact ⟨⟨x42.1, x42.2, pc, cc, x8.1, xs.length, x8.2, ys.length⟩, rfl, trivial, by simpa [mO, aO, mW, oE, aY.fr, gF, jS, Nd.cells, *] using h3⟩
end

end Go.Proofs.YtbajmaoegmbfgaaGreat
