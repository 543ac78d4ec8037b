/- Nodes are made; lists are copied. -/
import Derived.Test.YtbajmaoegmbfgaaGreatGNode2
import Derived.Test.YtbajmaoegmbfgaaGreatGAr2

set_option linter.unusedSimpArgs false
set_option linter.unusedVariables false
namespace Go.Proofs.YtbajmaoegmbfgaaGreat
section
open Go.RowKit Go.Ct
theorem jq(o:Int)(w:World):Calls Tryz.prog 202 #[.int .i64 o] w λ e w'=>e=.returned ({Nd.zero with kind:=7,bD:=o}:Nd).v/\St w [] [] w':=by
 refine enter Tryz.func202 Tryz.ntmps202 rfl rfl (SF.s0 w) ?_
 simp only[bX]
 refine J0 ?_;refine aI (λ x2=>?_);refine aG ?_;refine J2 ?_;refine uO ?_
 refine bB Tryz.results202 (λ w hw=>?_)
 exact⟨rfl,hw.done⟩
theorem bb(o x n:Int)(w:World):Calls Tryz.prog 136 #[.int .i64 o,.int .i64 x,.int .i64 n] w λ e w'=>e=.returned ({Nd.zero with kind:=8,bD:=o,exp:=x,new:=n}:Nd).v/\St w [] [] w':=by
 refine enter Tryz.func136 Tryz.ntmps136 rfl rfl (SF.s0 w) ?_
 simp only[bX]
 refine J0 ?_;refine aI (λ x6=>?_);refine aG ?_;refine jA ?_;refine aA ?_;refine uO ?_
 refine bB Tryz.results136 (λ w hw=>?_)
 exact⟨rfl,hw.done⟩
theorem SF.frz{w w':World}{F:Fr}{o:Ow}(h:SF w [] [] [] F [o] w'):SF w [] [] [] ((o.p,o.cs)::F) [] w':=h.freeze .head (by simp)
theorem SF.aBv{w w':World}{F:Fr}{o o2:Ow}(h:SF w [] [] [] F [o,o2] w'):SF w [] [] [] ((o2.p,o2.cs)::(o.p,o.cs)::F) [] w':=(h.freeze .head (by simp)).freeze .head (by simp)
theorem So:wV Tryz.prog 164 24=true:=by kernel_rfl
theorem Ws:wV Tryz.prog 37 8=true:=by kernel_rfl
theorem Wy{l:List Pr}{a:Option Addr}{c:Nat}{w:World}(ha:Cl w a (dC l))(hl:l.length<=11728124029610):Calls Tryz.prog 124 #[.slice a l.length c] w λ e w' =>
  ∃p:Option Addr,e=.returned (.slice p l.length l.length)/\(l=[]->p=none)/\SF w [] [] [] [] [⟨p,dC l,l.length,164,2⟩] w':=by
 refine enter Tryz.func124 Tryz.ntmps124 rfl rfl (SF.s1 ha) ?_
 simp only[bX]
 refine cR ?_;refine kY ?_;refine dE ?_;refine uB ?_
 refine bC (λ c6=>?_) (λ c6=>?_)
 ·have hl0:l=[]:=List.eq_nil_of_length_eq_zero (by omega)
  subst hl0
  refine cR ?_
  refine aR Tryz.results124 (λ w hw=>?_)
  exact⟨none,rfl,λ _=>rfl,(hw.lS 164 2).aU⟩
 ·refine aX ?_;refine J2 ?_;refine dE ?_;refine aP (je rf rf ep1 So om om) (λ x9=>?_);refine xZ ?_;refine dr (λ x12=>?_);refine aG ?_;refine J2 ?_;refine J1 ?_
  refine aR Tryz.results124 (λ w hw=>?_)
  exact⟨some ⟨x9,0,none⟩,rfl,λ h=>absurd (congrArg List.length h) (by simpa using c6),by simpa using hw.aU (H':=[]) (F':=[])⟩
theorem Xd{l:List Int}{a:Option Addr}{c:Nat}{w:World}(ha:Cl w a (aH l))(hl:l.length<=35184372088832):Calls Tryz.prog 123 #[.slice a l.length c] w λ e w' =>
  ∃p:Option Addr,e=.returned (.slice p l.length l.length)/\(l=[]->p=none)/\SF w [] [] [] [] [⟨p,aH l,l.length,37,1⟩] w':=by
 refine enter Tryz.func123 Tryz.ntmps123 rfl rfl (SF.s1 ha) ?_
 simp only[bX]
 refine cR ?_;refine kY ?_;refine dE ?_;refine uB ?_
 refine bC (λ c6=>?_) (λ c6=>?_)
 ·have hl0:l=[]:=List.eq_nil_of_length_eq_zero (by omega)
  subst hl0
  refine cR ?_
  refine aR Tryz.results123 (λ w hw=>?_)
  exact⟨none,rfl,λ _=>rfl,(hw.lS 37 1).aU⟩
 ·refine aX ?_;refine J2 ?_;refine dE ?_;refine aP (ay rf rf lu Ws om om) (λ x9=>?_);refine xZ ?_;refine dr (λ x12=>?_);refine aG ?_;refine J2 ?_;refine J1 ?_
  refine aR Tryz.results123 (λ w hw=>?_)
  exact⟨some ⟨x9,0,none⟩,rfl,λ h=>absurd (congrArg List.length h) (by simpa using c6),by simpa using hw.aU (H':=[]) (F':=[])⟩
theorem Us{n:Nd}{xs:List Int}{ys:List Pr}{w:World}(hr:rK w n xs ys)(h1:xs.length<=35184372088832)(h2:ys.length<=11728124029610):Calls Tryz.prog 78 #[n.v] w λ e w' =>
  ∃p:Option Addr×Option Addr,e=.returned ({n with brA:=p.1,brC:=xs.length,prA:=p.2,dC:=ys.length}:Nd).v/\((xs=[]->p.1=none)/\(ys=[]->p.2=none))/\SF w [] [] [] [] [⟨p.2,dC ys,ys.length,164,2⟩,⟨p.1,aH xs,xs.length,37,1⟩] w':=by
 have e1:=hr.brN;have e2:=hr.prN
 refine enter Tryz.func78 Tryz.ntmps78 rfl rfl (SF.s2 hr.br hr.pr) ?_
 simp only[bX]
 simp only[Nd.v,Nd.cells]
 refine J0 ?_;refine bL (λ x1=>?_);refine aI (λ x2=>?_);refine aG ?_;refine gM ?_;refine aC (Sl (Hc:=λ _=>[]) (Fc:=λ _=>[]) (hc:=λ w1 hw=>by rw[e1];exact Xd (hw.cl fin) h1)) (λ x5 h5=>?_);refine uP ?_;refine gM ?_;refine aC (Sl (Hc:=λ _=>[]) (Fc:=λ _=>[]) (hc:=λ w1 hw=>by rw[e2];exact Wy (hw.cl fin) h2)) (λ x9 h9=>?_);refine uP ?_;refine nX ?_;refine J5 ?_
 refine bB Tryz.results78 (λ w hw=>?_)
 exact⟨(x5,x9),by rw[e1,e2];rfl,⟨h5,h9⟩,hw.aU⟩
theorem V5{n:Nd}{xs:List Int}{ys:List Pr}{w:World}(hr:rK w n xs ys)(h1:xs.length<=35184372088832)(h2:ys.length<=11728124029610):Calls Tryz.prog 78 #[n.v] w λ e w' =>
  ∃p:Option Addr×Option Addr,e=.returned ({n with brA:=p.1,brC:=xs.length,prA:=p.2,dC:=ys.length}:Nd).v/\((xs=[]->p.1=none)/\(ys=[]->p.2=none))/\SF w [] [] [] [(p.1,aH xs),(p.2,dC ys)] [] w':=(Us hr h1 h2).mono λ _ _ ⟨p,he,hp,hs⟩=>⟨p,he,hp,SF.aBv hs⟩
end

/- Nodes of memories: New, Node, Alloc. -/
end Go.Proofs.YtbajmaoegmbfgaaGreat
namespace Go.Ct
section
def eZ:aS:=⟨{Nd.zero with kind:=1},[],[]⟩
def aD(L:List aS)(r:Int):aS:=if 1<=r/\r<=L.length then L.getD (r-1).toNat aS.zero else aS.zero
theorem pC{L:List aS}{r:Int}(h:¬(1<=r/\r<=L.length)):aD L r=aS.zero:=if_neg h
theorem vS{L:List aS}{k:Nat}(h:k<L.length):aD L ((k+1:Nat):Int)=L.getD k aS.zero:=by
 unfold aD
 rw[if_pos (by omega),show(((k+1:Nat):Int)-1).toNat=k by omega]
def cW(L:List aS):List aS:=eZ::eZ::L
theorem fI(L:List aS):(cW L).length=L.length+2:=rfl
theorem N6:eZ.Fit:=⟨rfl,rfl,by decide,by decide⟩
theorem Fits.all{L:List aS}(h:Fits L):Fits (cW L):=λ v hv=>by
 simp only[cW,List.mem_cons] at hv
 rcases hv with rfl|rfl|hv
 ·exact N6
 ·exact N6
 ·exact h v hv
theorem Xn{L:List aS}(h:Fits L)(r:Int):(aD L r).Fit:=by
 unfold aD
 split
 ·rename_i hr
  exact h.at (by omega)
 ·exact P2
structure AX where
 pn:Option Addr
 cn:Nat
 pc:Option Addr
 cc:Nat
 b1:Option Addr
 c1:Nat
 b2:Option Addr
 c2:Nat
def fM(k:Int)(cs:List Int)(init:Int):List Int:=if k=2∨k=3∨k=5∨k=6∨k=8 then cs++[init] else cs
def jK(n:Nd)(xs:List Int)(ys:List Pr)(c:Nat)(x:AX):aS :=
 aS.mk {n with main:=if n.kind=2 then((c+1:Nat):Int) else 0,prev:=if n.kind=3∨n.kind=5∨n.kind=6 then((c+1:Nat):Int) else 0,status:=if n.kind=8 then((c+1:Nat):Int) else 0,brA:=x.b1,brN:=xs.length,brC:=x.c1,prA:=x.b2,prN:=ys.length,dC:=x.c2} xs ys
theorem gX{k:Int}{cs:List Int}{init:Int}:cs.length<=(fM k cs init).length/\(fM k cs init).length<=cs.length+1:=by unfold fM;split<;>simp
theorem H0{n:Nd}{xs:List Int}{ys:List Pr}{c:Nat}{x:AX}(h1:xs.length<=35184372088832)(h2:ys.length<=11728124029610):(jK n xs ys c x).Fit:=⟨rfl,rfl,h1,h2⟩
def aS.at_(v:aS)(p q:Option Addr):aS:=⟨{v.nd with brA:=p,brC:=v.xs.length,prA:=q,dC:=v.ys.length},v.xs,v.ys⟩
theorem aS.dq{v:aS}(h:v.Fit)(p q:Option Addr):(v.at_ p q).Fit:=⟨h.brN,h.prN,h.brS,h.prS⟩
end
end Go.Ct
namespace Go.Proofs.YtbajmaoegmbfgaaGreat
section
open Go.RowKit Go.Ct
variable{w:World}{D:List Nat}{b:Nat}{L:List aS}{cs:List Int}{gen acc:Int}{pn pc:Option Addr}{cn cc:Nat}{A:Fr}
theorem Ze(w:World):Calls Tryz.prog 64 #[] w λ e w'=>∃q:Nat×Option Addr,e=.returned (.pointer (some ⟨q.1,0,none⟩))/\True /\
  SF w [] [(q.1,mO [eZ,eZ] [] 0 0 q.2 2 none 0)] [] [] (mW [eZ,eZ] [] q.2 2 none 0) w':=by
 refine enter Tryz.func64 Tryz.ntmps64 rfl rfl (SF.s0 w) ?_
 simp only[bX]
 refine cR ?_;refine J0 ?_;refine bG ?_;refine bG ?_;refine aP (S2 (c:=2) (sz:=14) rfl (λ _=>cO rM Ji rfl rfl rfl rfl (by simp only[Cq,mZ,List.cons_append,List.nil_append];exact rfl))) (λ x3=>?_);refine bG ?_;refine bG ?_;refine bL (λ x6=>?_);refine J1 ?_
 refine aR Tryz.results64 (λ w hw=>?_)
 exact⟨(x6,some ⟨x3,0,none⟩),rfl,trivial,(SF.ck (hw.lS 37 1)).aU⟩
theorem bu(hs:SF w D [(b,mO L cs gen acc pn cn pc cc)] A [] (mW L cs pn cn pc cc) w)(r:Int)(hr:r<1):Calls Tryz.prog 25 #[.pointer (some ⟨b,0,none⟩),.int .i64 r] w λ e w'=>∃q:Unit,e=.returned (aD L r).nd.v/\True /\
  SF w D [(b,mO L cs gen acc pn cn pc cc)] [] [] (mW L cs pn cn pc cc) w':=by
 refine enter Tryz.func25 Tryz.ntmps25 rfl rfl (yE hs) ?_
 simp only[bX]
 refine J0 ?_;refine aI (λ x4=>?_);refine aG ?_;refine kY ?_;refine Ce ?_
 (refine eI 7 (λ g7=>?_) (λ g7=>?_)<;>(try (exfalso;omega))<;>(refine aJ ?_))
 refine vx ?_;refine Qu ?_;refine B7 ?_;refine aG ?_
 refine bC (λ c16=>?_) (λ c16=>?_)
 ·try (exfalso;omega)
  refine J0 ?_;refine uO ?_
  refine bB Tryz.results25 (λ w hw=>?_)
  exact⟨(),by rw[pC (by omega)];rfl,trivial,hw.aU⟩
 ·exact nv c16
theorem aa(hs:SF w D [(b,mO L cs gen acc pn cn pc cc)] A [] (mW L cs pn cn pc cc) w){k:Nat}(hk:(k:Int)<9223372036854775807)(hl:L.length<=274877906944):Calls Tryz.prog 25 #[.pointer (some ⟨b,0,none⟩),.int .i64 ((k+1:Nat):Int)] w λ e w'=>∃q:Unit,e=.returned (aD L ((k+1:Nat):Int)).nd.v/\True /\
  SF w D [(b,mO L cs gen acc pn cn pc cc)] [] [] (mW L cs pn cn pc cc) w':=by
 refine enter Tryz.func25 Tryz.ntmps25 rfl rfl (yE hs) ?_
 simp only[bX]
 refine J0 ?_;refine aI (λ x4=>?_);refine aG ?_;refine kY ?_;refine Ce ?_
 (refine aF ?_;refine aA ?_)
 refine vx ?_;refine Qu ?_;refine B7 ?_;refine aG ?_
 refine bC (λ c16=>?_) (λ c16=>?_)
 ·try (exfalso;omega)
  refine J0 ?_;refine uO ?_
  refine bB Tryz.results25 (λ w hw=>?_)
  (exact⟨(),by rw[pC (by omega)];rfl,trivial,hw.aU⟩)
 ·try (exfalso;omega)
  refine aX ?_;refine E0 ?_;refine J3 ?_;refine aA ?_;refine rR ?_;refine Qp ?_;refine J5 ?_
  refine bB Tryz.results25 (λ w hw=>?_)
  (exact⟨(),by rw[vS (by omega)];rfl,trivial,hw.aU⟩)
theorem mg(hs:SF w D [(b,mO L cs gen acc pn cn pc cc)] A [] (mW L cs pn cn pc cc) w)(r:Int)(hr:r<=9223372036854775807)(hl:L.length<=274877906944):Calls Tryz.prog 25 #[.pointer (some ⟨b,0,none⟩),.int .i64 r] w λ e w'=>∃q:Unit,e=.returned (aD L r).nd.v/\True /\
  SF w D [(b,mO L cs gen acc pn cn pc cc)] [] [] (mW L cs pn cn pc cc) w':=by
 rcases Int.lt_or_le r 1 with h|h
 ·exact bu hs r h
 ·obtain⟨k,rfl⟩:∃k:Nat,r=((k+1:Nat):Int):=⟨(r-1).toNat,by omega⟩
  exact aa hs (by omega) hl
end

/- Alloc of the two memories. -/
section
open Go.RowKit Go.Ct
variable{w:World}{D:List Nat}{b:Nat}{L:List aS}{cs:List Int}{gen acc:Int}{pn pc:Option Addr}{cn cc:Nat}{A:Fr}
theorem Bb {n : Nd} {xs : List Int} {ys : List Pr} (init : Int) (hs : SF w D [(b, mO L cs gen acc pn cn pc cc)] [(n.brA, aH xs), (n.prA, dC ys)] [] (mW L cs pn cn pc cc) w) (e1 : n.brN = xs.length) (e2 : n.prN = ys.length) (h1 : xs.length ≤ 274877906944) (h2 : ys.length ≤ 274877906944)
    (hl : L.length ≤ 274877906944) (hc : cs.length ≤ 274877906944) :
    Calls Tryz.prog 92 #[.pointer (some ⟨b, 0, none⟩), n.v, .int .i64 init] w fun e w' => ∃ x : AX, e = .returned (.int .i64 ((L.length + 1 : Nat) : Int)) ∧ True ∧
      SF w D [(b, mO (L ++ [jK n xs ys cs.length x]) (fM n.kind cs init) gen acc x.pn x.cn x.pc x.cc)] [] (jK n xs ys cs.length x).fr (mW (L ++ [jK n xs ys cs.length x]) (fM n.kind cs init) x.pn x.cn x.pc x.cc) w' := by
  refine enter Tryz.func92 Tryz.ntmps92 rfl rfl (yE hs) ?_
  simp only [bX]
  simp only [Nd.v, Nd.cells]
  refine J0 ?_; refine bL (fun x4 => ?_); refine J1 ?_; refine J0 ?_; refine aE ?_; refine iF (fun _ => ?_); refine aE ?_; refine iF (fun _ => ?_); refine uP ?_; refine D7 ?_; refine aG ?_; refine cZ ?_; refine lM ?_
  refine bC (fun c12 => ?_) (fun c12 => ?_)
  · try (exfalso; omega)
    refine Jq ?_; refine aC (cM (hc := fun w hs => kZ init hs hc)) (fun x16 h16 => ?_); refine uP ?_; refine fC ?_; refine J0 ?_; refine iL (fun x32 => ?_); refine J3 ?_; (refine fL (fun x35 => ?_); try (refine eW (fun h35 => ?_))); refine uP ?_; refine J0 ?_; refine iL (fun x37 => ?_); refine J3 ?_; (refine fL (fun x40 => ?_); try (refine eW (fun h40 => ?_))); refine uP ?_; refine aT ?_; refine dV [(0, []), (1, []), (2, []), (3, []), (4, []), (5, []), (6, []), (7, [5]), (8, []), (9, []), (10, []), (11, []), (12, [])] ?_; refine aM ?_; refine xS ?_; refine bK ?_; refine cG (h := fun x49 => ?_); ((refine cB (i := 8) (hq := (bF.eR (fV (sz := 14) rf rf zR (by rw [dX]) fin rfl rfl Qj rfl (by decide) gN om) vM)) (h := fun x50 => ?_); try (refine eF (fun h50 => ?_)))); refine J4 ?_; refine aQ ?_; refine wU ?_; refine E0 ?_; refine Nk ?_; refine J1 ?_
    refine aR Tryz.results92 (fun w hw => ?_)
    have h2 := (hw.freeze .head).freeze .head
    simp only [qY, List.nil_append] at h2
    have h3 := h2.aU (H' := [(b, _)]) (F' := [(x35.1, aH xs), (x40.1, dC ys)]) (O' := [_, _])
    exact ⟨⟨x50.1, x50.2, x16.1, x16.2, x35.1, x35.2, x40.1, x40.2⟩, rfl, trivial, by simpa [mO, aO, mW, jK, aS.fr, fM, jT, Nd.cells, *] using h3⟩
  · try (exfalso; omega)
    refine aT ?_; refine lM ?_
    refine bC (fun c18 => ?_) (fun c18 => ?_)
    · try (exfalso; omega)
      refine aX ?_
      refine bC (fun c18 => ?_) (fun c18 => ?_)
      · try (exfalso; omega)
        refine Jq ?_; refine aC (cM (hc := fun w hs => kZ init hs hc)) (fun x24 h24 => ?_); refine uP ?_; refine fC ?_; refine J0 ?_; refine iL (fun x32 => ?_); refine J3 ?_; (refine fL (fun x35 => ?_); try (refine eW (fun h35 => ?_))); refine uP ?_; refine J0 ?_; refine iL (fun x37 => ?_); refine J3 ?_; (refine fL (fun x40 => ?_); try (refine eW (fun h40 => ?_))); refine uP ?_; refine aT ?_; refine dV [(0, []), (1, []), (2, []), (3, []), (4, []), (5, []), (6, []), (7, [5]), (8, []), (9, []), (10, []), (11, []), (12, [])] ?_; refine aM ?_; refine xS ?_; refine bK ?_; refine cG (h := fun x49 => ?_); ((refine cB (i := 8) (hq := (bF.eR (fV (sz := 14) rf rf zR (by rw [dX]) fin rfl rfl Qj rfl (by decide) gN om) vM)) (h := fun x50 => ?_); try (refine eF (fun h50 => ?_)))); refine J4 ?_; refine aQ ?_; refine wU ?_; refine E0 ?_; refine Nk ?_; refine J1 ?_
        refine aR Tryz.results92 (fun w hw => ?_)
        have h2 := (hw.freeze .head).freeze .head
        simp only [qY, List.nil_append] at h2
        have h3 := h2.aU (H' := [(b, _)]) (F' := [(x35.1, aH xs), (x40.1, dC ys)]) (O' := [_, _])
        exact ⟨⟨x50.1, x50.2, x24.1, x24.2, x35.1, x35.2, x40.1, x40.2⟩, rfl, trivial, by simpa [mO, aO, mW, jK, aS.fr, fM, jT, Nd.cells, *] using h3⟩
      · try (exfalso; omega)
    · try (exfalso; omega)
      refine lM ?_
      refine bC (fun c18 => ?_) (fun c18 => ?_)
      · try (exfalso; omega)
        refine aX ?_
        refine bC (fun c18 => ?_) (fun c18 => ?_)
        · try (exfalso; omega)
          refine Jq ?_; refine aC (cM (hc := fun w hs => kZ init hs hc)) (fun x24 h24 => ?_); refine uP ?_; refine fC ?_; refine J0 ?_; refine iL (fun x32 => ?_); refine J3 ?_; (refine fL (fun x35 => ?_); try (refine eW (fun h35 => ?_))); refine uP ?_; refine J0 ?_; refine iL (fun x37 => ?_); refine J3 ?_; (refine fL (fun x40 => ?_); try (refine eW (fun h40 => ?_))); refine uP ?_; refine aT ?_; refine dV [(0, []), (1, []), (2, []), (3, []), (4, []), (5, []), (6, []), (7, [5]), (8, []), (9, []), (10, []), (11, []), (12, [])] ?_; refine aM ?_; refine xS ?_; refine bK ?_; refine cG (h := fun x49 => ?_); ((refine cB (i := 8) (hq := (bF.eR (fV (sz := 14) rf rf zR (by rw [dX]) fin rfl rfl Qj rfl (by decide) gN om) vM)) (h := fun x50 => ?_); try (refine eF (fun h50 => ?_)))); refine J4 ?_; refine aQ ?_; refine wU ?_; refine E0 ?_; refine Nk ?_; refine J1 ?_
          refine aR Tryz.results92 (fun w hw => ?_)
          have h2 := (hw.freeze .head).freeze .head
          simp only [qY, List.nil_append] at h2
          have h3 := h2.aU (H' := [(b, _)]) (F' := [(x35.1, aH xs), (x40.1, dC ys)]) (O' := [_, _])
          exact ⟨⟨x50.1, x50.2, x24.1, x24.2, x35.1, x35.2, x40.1, x40.2⟩, rfl, trivial, by simpa [mO, aO, mW, jK, aS.fr, fM, jT, Nd.cells, *] using h3⟩
        · try (exfalso; omega)
      · try (exfalso; omega)
        refine dG ?_; refine Qq ?_
        refine bC (fun c18 => ?_) (fun c18 => ?_)
        · try (exfalso; omega)
          refine Jq ?_; refine aC (cM (hc := fun w hs => kZ init hs hc)) (fun x24 h24 => ?_); refine uP ?_; refine fC ?_; refine J0 ?_; refine iL (fun x32 => ?_); refine J3 ?_; (refine fL (fun x35 => ?_); try (refine eW (fun h35 => ?_))); refine uP ?_; refine J0 ?_; refine iL (fun x37 => ?_); refine J3 ?_; (refine fL (fun x40 => ?_); try (refine eW (fun h40 => ?_))); refine uP ?_; refine aT ?_; refine dV [(0, []), (1, []), (2, []), (3, []), (4, []), (5, []), (6, []), (7, [5]), (8, []), (9, []), (10, []), (11, []), (12, [])] ?_; refine aM ?_; refine xS ?_; refine bK ?_; refine cG (h := fun x49 => ?_); ((refine cB (i := 8) (hq := (bF.eR (fV (sz := 14) rf rf zR (by rw [dX]) fin rfl rfl Qj rfl (by decide) gN om) vM)) (h := fun x50 => ?_); try (refine eF (fun h50 => ?_)))); refine J4 ?_; refine aQ ?_; refine wU ?_; refine E0 ?_; refine Nk ?_; refine J1 ?_
          refine aR Tryz.results92 (fun w hw => ?_)
          have h2 := (hw.freeze .head).freeze .head
          simp only [qY, List.nil_append] at h2
          have h3 := h2.aU (H' := [(b, _)]) (F' := [(x35.1, aH xs), (x40.1, dC ys)]) (O' := [_, _])
          exact ⟨⟨x50.1, x50.2, x24.1, x24.2, x35.1, x35.2, x40.1, x40.2⟩, rfl, trivial, by simpa [mO, aO, mW, jK, aS.fr, fM, jT, Nd.cells, *] using h3⟩
        · try (exfalso; omega)
          refine lM ?_
          refine bC (fun c26 => ?_) (fun c26 => ?_)
          · try (exfalso; omega)
            refine Jq ?_; refine aC (cM (hc := fun w hs => kZ init hs hc)) (fun x30 h30 => ?_); refine uP ?_; refine fC ?_; refine J0 ?_; refine iL (fun x32 => ?_); refine J3 ?_; (refine fL (fun x35 => ?_); try (refine eW (fun h35 => ?_))); refine uP ?_; refine J0 ?_; refine iL (fun x37 => ?_); refine J3 ?_; (refine fL (fun x40 => ?_); try (refine eW (fun h40 => ?_))); refine uP ?_; refine aT ?_; refine dV [(0, []), (1, []), (2, []), (3, []), (4, []), (5, []), (6, []), (7, [5]), (8, []), (9, []), (10, []), (11, []), (12, [])] ?_; refine aM ?_; refine xS ?_; refine bK ?_; refine cG (h := fun x49 => ?_); ((refine cB (i := 8) (hq := (bF.eR (fV (sz := 14) rf rf zR (by rw [dX]) fin rfl rfl Qj rfl (by decide) gN om) vM)) (h := fun x50 => ?_); try (refine eF (fun h50 => ?_)))); refine J4 ?_; refine aQ ?_; refine wU ?_; refine E0 ?_; refine Nk ?_; refine J1 ?_
            refine aR Tryz.results92 (fun w hw => ?_)
            have h2 := (hw.freeze .head).freeze .head
            simp only [qY, List.nil_append] at h2
            have h3 := h2.aU (H' := [(b, _)]) (F' := [(x35.1, aH xs), (x40.1, dC ys)]) (O' := [_, _])
            exact ⟨⟨x50.1, x50.2, x30.1, x30.2, x35.1, x35.2, x40.1, x40.2⟩, rfl, trivial, by simpa [mO, aO, mW, jK, aS.fr, fM, jT, Nd.cells, *] using h3⟩
          · try (exfalso; omega)
            refine oF ?_; refine J0 ?_; refine iL (fun x32 => ?_); refine J3 ?_; (refine fL (fun x35 => ?_); try (refine eW (fun h35 => ?_))); refine uP ?_; refine J0 ?_; refine iL (fun x37 => ?_); refine J3 ?_; (refine fL (fun x40 => ?_); try (refine eW (fun h40 => ?_))); refine uP ?_; refine aT ?_; refine dV [(0, []), (1, []), (2, []), (3, []), (4, []), (5, []), (6, []), (7, [5]), (8, []), (9, []), (10, []), (11, []), (12, [])] ?_; refine aM ?_; refine xS ?_; refine bK ?_; refine cG (h := fun x49 => ?_); ((refine cB (i := 8) (hq := (bF.eR (fV (sz := 14) rf rf zR (by rw [dX]) fin rfl rfl Qj rfl (by decide) gN om) vM)) (h := fun x50 => ?_); try (refine eF (fun h50 => ?_)))); refine J4 ?_; refine aQ ?_; refine wU ?_; refine E0 ?_; refine Nk ?_; refine J1 ?_
            refine aR Tryz.results92 (fun w hw => ?_)
            have h2 := (hw.freeze .head).freeze .head
            simp only [qY, List.nil_append] at h2
            have h3 := h2.aU (H' := [(b, _)]) (F' := [(x35.1, aH xs), (x40.1, dC ys)]) (O' := [_, _])
            exact ⟨⟨x50.1, x50.2, pc, cc, x35.1, x35.2, x40.1, x40.2⟩, rfl, trivial, by simpa [mO, aO, mW, jK, aS.fr, fM, jT, Nd.cells, *] using h3⟩
theorem mX{m c:Nat}{p:Option Addr}{v1 v2 v3:Value}(hs:SF w D [(b,.cells ⟨[.slice p m c,v1,v2,v3]⟩ 139 (0,0))] A [] [] w)(hl:m<=274877906945):Calls Tryz.prog 81 #[.pointer (some ⟨b,0,none⟩)] w λ e w'=>∃q:Unit,e=.returned (.int .i64 ((m+2:Nat):Int))/\True /\
  SF w D [(b,.cells ⟨[.slice p m c,v1,v2,v3]⟩ 139 (0,0))] [] [] [] w':=by
 refine enter Tryz.func81 Tryz.ntmps81 rfl rfl hs ?_
 simp only[bX]
 refine cR ?_;refine kO ?_;refine dE ?_;refine Ie ?_;refine J1 ?_
 refine aR Tryz.results81 (λ w hw=>?_)
 exact⟨(),by rw[show(2:Int)+(m:Int)=((m+2:Nat):Int) by omega];rfl,trivial,hw.aU⟩
theorem kf {n : Nd} {xs : List Int} {ys : List Pr} (init : Int) (hs : SF w D [(b, aO L cs gen acc pn cn pc cc)] [(n.brA, aH xs), (n.prA, dC ys)] [] (mW L cs pn cn pc cc) w) (e1 : n.brN = xs.length) (e2 : n.prN = ys.length) (h1 : xs.length ≤ 274877906944) (h2 : ys.length ≤ 274877906944)
    (hl : L.length ≤ 274877906944) (hc : cs.length ≤ 274877906944) :
    Calls Tryz.prog 29 #[.pointer (some ⟨b, 0, none⟩), n.v, .int .i64 init] w fun e w' => ∃ x : AX, e = .returned (.int .i64 ((L.length + 3 : Nat) : Int)) ∧ True ∧
      SF w D [(b, aO (L ++ [jK n xs ys cs.length x]) (fM n.kind cs init) gen acc x.pn x.cn x.pc x.cc)] [] (jK n xs ys cs.length x).fr (mW (L ++ [jK n xs ys cs.length x]) (fM n.kind cs init) x.pn x.cn x.pc x.cc) w' := by
  refine enter Tryz.func29 Tryz.ntmps29 rfl rfl (vJ hs) ?_
  simp only [bX]
  simp only [Nd.v, Nd.cells]
  refine J0 ?_; refine bL (fun x4 => ?_); refine J1 ?_; refine nX ?_; refine aC (cF (V := fun p : Option Addr × Option Addr => .agg ⟨[.int .i64 n.kind, .int .i64 n.gen, .int .i64 n.main, .int .u64 n.bm, .slice p.1 n.brN xs.length, .int .u64 n.hash, .string n.key, .int .u64 n.val, .slice p.2 n.prN ys.length, .int .i64 n.prev, .int .i64 n.bD, .int .i64 n.exp, .int .i64 n.new, .int .i64 n.status]⟩) (hc := fun w1 hw => V5 (n := n) ⟨e1, e2, hw.cl (.bD .head), hw.cl (.bD (.tail .head)), by omega, by omega⟩ (by omega) (by omega))) (fun x8 h8 => ?_); refine J5 ?_; refine J0 ?_; refine aE ?_; refine iF (fun _ => ?_); refine aE ?_; refine iF (fun _ => ?_); refine uP ?_; refine Cp ?_; refine gM ?_; refine Qq ?_
  refine bC (fun c12 => ?_) (fun c12 => ?_)
  · try (exfalso; omega)
    refine Jq ?_; refine aC (cM (hc := fun w hs => yY init hs hc)) (fun x18 h18 => ?_); refine uP ?_; refine fC ?_; refine aT ?_; refine dV [(0, []), (1, []), (2, []), (3, []), (4, []), (5, []), (6, [4]), (7, []), (8, []), (9, []), (10, [])] ?_; refine U2 ?_; refine bK ?_; refine cG (h := fun x41 => ?_); ((refine cB (i := 7) (hq := (bF.eR (fV (sz := 14) rf rf zR (by rw [dX]) fin rfl rfl Qj rfl (by decide) gN om) vM)) (h := fun x42 => ?_); try (refine eF (fun h42 => ?_)))); refine zk ?_; refine J2 ?_; refine aC (cM (hc := fun w hs => mX (m := L.length + 1) hs (by omega))) (fun x46 h46 => ?_); refine J1 ?_
    refine aR Tryz.results29 (fun w hw => ?_)
    have h3 := hw.aU (H' := [(b, _)]) (F' := [(x8.1, aH xs), (x8.2, dC ys)]) (O' := [_, _])
    exact ⟨⟨x42.1, x42.2, x18.1, x18.2, x8.1, xs.length, x8.2, ys.length⟩, rfl, trivial, by simpa [mO, aO, mW, jK, aS.fr, fM, jT, Nd.cells, *] using h3⟩
  · try (exfalso; omega)
    refine nX ?_; refine aC (c0 (V := .bool) (hc := fun w1 hw => Si ({ n with main := 0, prev := 0, status := 0, brA := x8.1, brC := xs.length, prA := x8.2, dC := ys.length } : Nd) w1)) (fun x22 h22 => ?_); refine J1 ?_
    refine bC (fun c20 => ?_) (fun c20 => ?_)
    · try (exfalso; omega)
      have k22 : n.kind = 3 ∨ n.kind = 5 ∨ n.kind = 6 := h22.1 c20
      rcases k22 with k22 | k22 | k22
      all_goals (refine Jq ?_; refine aC (cM (hc := fun w hs => yY init hs hc)) (fun x25 h25 => ?_); refine uP ?_; refine fC ?_; refine aT ?_; refine dV [(0, []), (1, []), (2, []), (3, []), (4, []), (5, []), (6, [4]), (7, []), (8, []), (9, []), (10, [])] ?_; refine U2 ?_; refine bK ?_; refine cG (h := fun x41 => ?_); ((refine cB (i := 7) (hq := (bF.eR (fV (sz := 14) rf rf zR (by rw [dX]) fin rfl rfl Qj rfl (by decide) gN om) vM)) (h := fun x42 => ?_); try (refine eF (fun h42 => ?_)))); refine zk ?_; refine J2 ?_; refine aC (cM (hc := fun w hs => mX (m := L.length + 1) hs (by omega))) (fun x46 h46 => ?_); refine J1 ?_)
      all_goals
       refine aR Tryz.results29 (fun w hw => ?_)
       have h3 := hw.aU (H' := [(b, _)]) (F' := [(x8.1, aH xs), (x8.2, dC ys)]) (O' := [_, _])
       exact ⟨⟨x42.1, x42.2, x25.1, x25.2, x8.1, xs.length, x8.2, ys.length⟩, rfl, trivial, by simpa [mO, aO, mW, jK, aS.fr, fM, jT, Nd.cells, *] using h3⟩
    · try (exfalso; omega)
      have k22 : ¬ (n.kind = 3 ∨ n.kind = 5 ∨ n.kind = 6) := fun k => by rw [h22.2 k] at c20; cases c20
      obtain ⟨k3, k56⟩ := not_or.1 k22
      obtain ⟨k5, k6⟩ := not_or.1 k56
      refine gM ?_; refine Qq ?_
      refine bC (fun c27 => ?_) (fun c27 => ?_)
      · try (exfalso; omega)
        refine Jq ?_; refine aC (cM (hc := fun w hs => yY init hs hc)) (fun x33 h33 => ?_); refine uP ?_; refine fC ?_; refine aT ?_; refine dV [(0, []), (1, []), (2, []), (3, []), (4, []), (5, []), (6, [4]), (7, []), (8, []), (9, []), (10, [])] ?_; refine U2 ?_; refine bK ?_; refine cG (h := fun x41 => ?_); ((refine cB (i := 7) (hq := (bF.eR (fV (sz := 14) rf rf zR (by rw [dX]) fin rfl rfl Qj rfl (by decide) gN om) vM)) (h := fun x42 => ?_); try (refine eF (fun h42 => ?_)))); refine zk ?_; refine J2 ?_; refine aC (cM (hc := fun w hs => mX (m := L.length + 1) hs (by omega))) (fun x46 h46 => ?_); refine J1 ?_
        refine aR Tryz.results29 (fun w hw => ?_)
        have h3 := hw.aU (H' := [(b, _)]) (F' := [(x8.1, aH xs), (x8.2, dC ys)]) (O' := [_, _])
        exact ⟨⟨x42.1, x42.2, x33.1, x33.2, x8.1, xs.length, x8.2, ys.length⟩, rfl, trivial, by simpa [mO, aO, mW, jK, aS.fr, fM, jT, Nd.cells, *] using h3⟩
      · try (exfalso; omega)
        refine oF ?_; refine aT ?_; refine dV [(0, []), (1, []), (2, []), (3, []), (4, []), (5, []), (6, [4]), (7, []), (8, []), (9, []), (10, [])] ?_; refine U2 ?_; refine bK ?_; refine cG (h := fun x41 => ?_); ((refine cB (i := 7) (hq := (bF.eR (fV (sz := 14) rf rf zR (by rw [dX]) fin rfl rfl Qj rfl (by decide) gN om) vM)) (h := fun x42 => ?_); try (refine eF (fun h42 => ?_)))); refine zk ?_; refine J2 ?_; refine aC (cM (hc := fun w hs => mX (m := L.length + 1) hs (by omega))) (fun x46 h46 => ?_); refine J1 ?_
        refine aR Tryz.results29 (fun w hw => ?_)
        have h3 := hw.aU (H' := [(b, _)]) (F' := [(x8.1, aH xs), (x8.2, dC ys)]) (O' := [_, _])
        exact ⟨⟨x42.1, x42.2, pc, cc, x8.1, xs.length, x8.2, ys.length⟩, rfl, trivial, by simpa [mO, aO, mW, jK, aS.fr, fM, jT, Nd.cells, *] using h3⟩
end

end Go.Proofs.YtbajmaoegmbfgaaGreat
