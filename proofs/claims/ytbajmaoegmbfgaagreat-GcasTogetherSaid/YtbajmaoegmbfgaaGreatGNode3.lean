/- Nodes are made; lists are copied. -/
import Derived.Test.YtbajmaoegmbfgaaGreatGNode2
import Derived.Test.YtbajmaoegmbfgaaGreatGAr2

set_option linter.unusedSimpArgs false
set_option linter.unusedVariables false
namespace Go.Proofs.YtbajmaoegmbfgaaGreat
section
open Go.RowKit Go.Ct
theorem jy(o:Int)(w:World):Calls Tryz.prog 202 #[.int .i64 o] w λ e w'=>e=.returned ({Nd.zero with kind:=7,bK:=o}:Nd).v/\St w [] [] w':=by
 refine enter Tryz.func202 Tryz.ntmps202 rfl rfl (SF.s0 w) ?_
 simp only[bX]
 refine J0 ?_;refine aJ (λ x2=>?_);refine aH ?_;refine J2 ?_;refine vB ?_
 refine bC Tryz.results202 (λ w hw=>?_)
 exact⟨rfl,hw.done⟩
theorem SF.frz{w w':World}{F:Fr}{o:Ow}(h:SF w [] [] [] F [o] w'):SF w [] [] [] ((o.p,o.cs)::F) [] w':=h.freeze .head (by simp)
theorem SF.aCk{w w':World}{F:Fr}{o o2:Ow}(h:SF w [] [] [] F [o,o2] w'):SF w [] [] [] ((o2.p,o2.cs)::(o.p,o.cs)::F) [] w':=(h.freeze .head (by simp)).freeze .head (by simp)
theorem Rw:xT Tryz.prog 164 24=true:=by kernel_rfl
theorem Zk:xT Tryz.prog 37 8=true:=by kernel_rfl
theorem Xz{l:List Pr}{a:Option Addr}{c:Nat}{w:World}(ha:Cl w a (cU l))(hl:l.length<=11728124029610):Calls Tryz.prog 124 #[.slice a l.length c] w λ e w' =>
  ∃p:Option Addr,e=.returned (.slice p l.length l.length)/\(l=[]->p=none)/\SF w [] [] [] [] [⟨p,cU l,l.length,164,2⟩] w':=by
 refine enter Tryz.func124 Tryz.ntmps124 rfl rfl (SF.s1 ha) ?_
 simp only[bX]
 refine cO ?_;refine kB ?_;refine dB ?_;refine uG ?_
 refine bB (λ c6=>?_) (λ c6=>?_)
 ·have hl0:l=[]:=List.eq_nil_of_length_eq_zero (by omega)
  subst hl0
  refine cO ?_
  refine aT Tryz.results124 (λ w hw=>?_)
  exact⟨none,rfl,λ _=>rfl,(hw.kL 164 2).aU⟩
 ·refine bA ?_;refine J2 ?_;refine dB ?_;refine aS (j6 rf rf uh Rw om om) (λ x9=>?_);refine yE ?_;refine ar (λ x12=>?_);refine aH ?_;refine J2 ?_;refine J1 ?_
  refine aT Tryz.results124 (λ w hw=>?_)
  exact⟨some ⟨x9,0,none⟩,rfl,λ h=>absurd (congrArg List.length h) (by simpa using c6),by simpa using hw.aU (H':=[]) (F':=[])⟩
theorem Yw{l:List Int}{a:Option Addr}{c:Nat}{w:World}(ha:Cl w a (aG l))(hl:l.length<=35184372088832):Calls Tryz.prog 123 #[.slice a l.length c] w λ e w' =>
  ∃p:Option Addr,e=.returned (.slice p l.length l.length)/\(l=[]->p=none)/\SF w [] [] [] [] [⟨p,aG l,l.length,37,1⟩] w':=by
 refine enter Tryz.func123 Tryz.ntmps123 rfl rfl (SF.s1 ha) ?_
 simp only[bX]
 refine cO ?_;refine kB ?_;refine dB ?_;refine uG ?_
 refine bB (λ c6=>?_) (λ c6=>?_)
 ·have hl0:l=[]:=List.eq_nil_of_length_eq_zero (by omega)
  subst hl0
  refine cO ?_
  refine aT Tryz.results123 (λ w hw=>?_)
  exact⟨none,rfl,λ _=>rfl,(hw.kL 37 1).aU⟩
 ·refine bA ?_;refine J2 ?_;refine dB ?_;refine aS (na rf rf Zs Zk om om) (λ x9=>?_);refine yE ?_;refine ar (λ x12=>?_);refine aH ?_;refine J2 ?_;refine J1 ?_
  refine aT Tryz.results123 (λ w hw=>?_)
  exact⟨some ⟨x9,0,none⟩,rfl,λ h=>absurd (congrArg List.length h) (by simpa using c6),by simpa using hw.aU (H':=[]) (F':=[])⟩
theorem Ul{n:Nd}{xs:List Int}{ys:List Pr}{w:World}(hr:rO w n xs ys)(h1:xs.length<=35184372088832)(h2:ys.length<=11728124029610):Calls Tryz.prog 78 #[n.v] w λ e w' =>
  ∃p:Option Addr×Option Addr,e=.returned ({n with brA:=p.1,brC:=xs.length,prA:=p.2,cU:=ys.length}:Nd).v/\((xs=[]->p.1=none)/\(ys=[]->p.2=none))/\SF w [] [] [] [] [⟨p.2,cU ys,ys.length,164,2⟩,⟨p.1,aG xs,xs.length,37,1⟩] w':=by
 have e1:=hr.brN;have e2:=hr.prN
 refine enter Tryz.func78 Tryz.ntmps78 rfl rfl (SF.s2 hr.br hr.pr) ?_
 simp only[bX]
 simp only[Nd.v,Nd.cells]
 refine J0 ?_;refine bI (λ x1=>?_);refine aJ (λ x2=>?_);refine aH ?_;refine gZ ?_;refine aD (Pn (Hc:=λ _=>[]) (Fc:=λ _=>[]) (hc:=λ w1 hw=>by rw[e1];exact Yw (hw.cl fin) h1)) (λ x5 h5=>?_);refine uK ?_;refine gZ ?_;refine aD (Pn (Hc:=λ _=>[]) (Fc:=λ _=>[]) (hc:=λ w1 hw=>by rw[e2];exact Xz (hw.cl fin) h2)) (λ x9 h9=>?_);refine uK ?_;refine nQ ?_;refine J5 ?_
 refine bC Tryz.results78 (λ w hw=>?_)
 exact⟨(x5,x9),by rw[e1,e2];rfl,⟨h5,h9⟩,hw.aU⟩
theorem U5{n:Nd}{xs:List Int}{ys:List Pr}{w:World}(hr:rO w n xs ys)(h1:xs.length<=35184372088832)(h2:ys.length<=11728124029610):Calls Tryz.prog 78 #[n.v] w λ e w' =>
  ∃p:Option Addr×Option Addr,e=.returned ({n with brA:=p.1,brC:=xs.length,prA:=p.2,cU:=ys.length}:Nd).v/\((xs=[]->p.1=none)/\(ys=[]->p.2=none))/\SF w [] [] [] [(p.1,aG xs),(p.2,cU ys)] [] w':=(Ul hr h1 h2).mono λ _ _ ⟨p,he,hp,hs⟩=>⟨p,he,hp,SF.aCk hs⟩
end

/- Nodes of memories: New, Node, Alloc. -/
end Go.Proofs.YtbajmaoegmbfgaaGreat
namespace Go.Ct
section
def fL:aP:=⟨{Nd.zero with kind:=1},[],[]⟩
def aB(L:List aP)(r:Int):aP:=if 1<=r/\r<=L.length then L.getD (r-1).toNat aP.zero else aP.zero
theorem pL{L:List aP}{r:Int}(h:¬(1<=r/\r<=L.length)):aB L r=aP.zero:=if_neg h
theorem sC{L:List aP}{k:Nat}(h:k<L.length):aB L ((k+1:Nat):Int)=L.getD k aP.zero:=by
 unfold aB
 rw[if_pos (by omega),show(((k+1:Nat):Int)-1).toNat=k by omega]
def cZ(L:List aP):List aP:=fL::fL::L
theorem fS(L:List aP):(cZ L).length=L.length+2:=rfl
theorem Qs:fL.Fit:=⟨rfl,rfl,by decide,by decide⟩
theorem Fits.all{L:List aP}(h:Fits L):Fits (cZ L):=λ v hv=>by
 simp only[cZ,List.mem_cons] at hv
 rcases hv with rfl|rfl|hv
 ·exact Qs
 ·exact Qs
 ·exact h v hv
theorem Ke{L:List aP}(h:Fits L)(r:Int):(aB L r).Fit:=by
 unfold aB
 split
 ·rename_i hr
  exact h.at (by omega)
 ·exact Qt
structure AX where
 pn:Option Addr
 cn:Nat
 pc:Option Addr
 cc:Nat
 b1:Option Addr
 c1:Nat
 b2:Option Addr
 c2:Nat
def fU(k:Int)(cs:List Int)(init:Int):List Int:=if k=2∨k=3∨k=5∨k=6∨k=8 then cs++[init] else cs
def kV(n:Nd)(xs:List Int)(ys:List Pr)(c:Nat)(x:AX):aP :=
 aP.mk {n with main:=if n.kind=2 then((c+1:Nat):Int) else 0,prev:=if n.kind=3∨n.kind=5∨n.kind=6 then((c+1:Nat):Int) else 0,status:=if n.kind=8 then((c+1:Nat):Int) else 0,brA:=x.b1,brN:=xs.length,brC:=x.c1,prA:=x.b2,prN:=ys.length,cU:=x.c2} xs ys
theorem iF{k:Int}{cs:List Int}{init:Int}:cs.length<=(fU k cs init).length/\(fU k cs init).length<=cs.length+1:=by unfold fU;split<;>simp
theorem Hk{n:Nd}{xs:List Int}{ys:List Pr}{c:Nat}{x:AX}(h1:xs.length<=35184372088832)(h2:ys.length<=11728124029610):(kV n xs ys c x).Fit:=⟨rfl,rfl,h1,h2⟩
def aP.at_(v:aP)(p q:Option Addr):aP:=⟨{v.nd with brA:=p,brC:=v.xs.length,prA:=q,cU:=v.ys.length},v.xs,v.ys⟩
theorem aP.de{v:aP}(h:v.Fit)(p q:Option Addr):(v.at_ p q).Fit:=⟨h.brN,h.prN,h.brS,h.prS⟩
end
end Go.Ct
namespace Go.Proofs.YtbajmaoegmbfgaaGreat
section
open Go.RowKit Go.Ct
variable{w:World}{D:List Nat}{b:Nat}{L:List aP}{cs:List Int}{gen acc:Int}{pn pc:Option Addr}{cn cc:Nat}{A:Fr}
theorem ml(w:World):Calls Tryz.prog 64 #[] w λ e w'=>∃q:Nat×Option Addr,e=.returned (.pointer (some ⟨q.1,0,none⟩))/\True /\
  SF w [] [(q.1,mO [fL,fL] [] 0 0 q.2 2 none 0)] [] [] (mW [fL,fL] [] q.2 2 none 0) w':=by
 refine enter Tryz.func64 Tryz.ntmps64 rfl rfl (SF.s0 w) ?_
 simp only[bX]
 refine cO ?_;refine J0 ?_;refine bJ ?_;refine bJ ?_;refine aS (Ug (c:=2) (sz:=14) rfl (λ _=>cJ rM Jb rfl rfl rfl rfl (by simp only[C6,nF,List.cons_append,List.nil_append];exact rfl))) (λ x3=>?_);refine bJ ?_;refine bJ ?_;refine bI (λ x6=>?_);refine J1 ?_
 refine aT Tryz.results64 (λ w hw=>?_)
 exact⟨(x6,some ⟨x3,0,none⟩),rfl,trivial,(SF.ji (hw.kL 37 1)).aU⟩
theorem lz(hs:SF w D [(b,mO L cs gen acc pn cn pc cc)] A [] (mW L cs pn cn pc cc) w)(r:Int)(hr:r<1):Calls Tryz.prog 25 #[.pointer (some ⟨b,0,none⟩),.int .i64 r] w λ e w'=>∃q:Unit,e=.returned (aB L r).nd.v/\True /\
  SF w D [(b,mO L cs gen acc pn cn pc cc)] [] [] (mW L cs pn cn pc cc) w':=by
 refine enter Tryz.func25 Tryz.ntmps25 rfl rfl (yQ hs) ?_
 simp only[bX]
 refine J0 ?_;refine aJ (λ x4=>?_);refine aH ?_;refine kB ?_;refine Cq ?_
 (refine eE 7 (λ g7=>?_) (λ g7=>?_)<;>(try (exfalso;omega))<;>(refine aI ?_))
 refine yf ?_;refine S4 ?_;refine Bh ?_;refine aH ?_
 refine bB (λ c16=>?_) (λ c16=>?_)
 ·try (exfalso;omega)
  refine J0 ?_;refine vB ?_
  refine bC Tryz.results25 (λ w hw=>?_)
  exact⟨(),by rw[pL (by omega)];rfl,trivial,hw.aU⟩
 ·exact nv c16
theorem fx(hs:SF w D [(b,mO L cs gen acc pn cn pc cc)] A [] (mW L cs pn cn pc cc) w){k:Nat}(hk:(k:Int)<9223372036854775807)(hl:L.length<=274877906944):Calls Tryz.prog 25 #[.pointer (some ⟨b,0,none⟩),.int .i64 ((k+1:Nat):Int)] w λ e w'=>∃q:Unit,e=.returned (aB L ((k+1:Nat):Int)).nd.v/\True /\
  SF w D [(b,mO L cs gen acc pn cn pc cc)] [] [] (mW L cs pn cn pc cc) w':=by
 refine enter Tryz.func25 Tryz.ntmps25 rfl rfl (yQ hs) ?_
 simp only[bX]
 refine J0 ?_;refine aJ (λ x4=>?_);refine aH ?_;refine kB ?_;refine Cq ?_
 (refine aF ?_;refine aA ?_)
 refine yf ?_;refine S4 ?_;refine Bh ?_;refine aH ?_
 refine bB (λ c16=>?_) (λ c16=>?_)
 ·try (exfalso;omega)
  refine J0 ?_;refine vB ?_
  refine bC Tryz.results25 (λ w hw=>?_)
  (exact⟨(),by rw[pL (by omega)];rfl,trivial,hw.aU⟩)
 ·try (exfalso;omega)
  refine bA ?_;refine Ia ?_;refine J3 ?_;refine aA ?_;refine rT ?_;refine Rl ?_;refine J5 ?_
  refine bC Tryz.results25 (λ w hw=>?_)
  (exact⟨(),by rw[sC (by omega)];rfl,trivial,hw.aU⟩)
theorem Mh(hs:SF w D [(b,mO L cs gen acc pn cn pc cc)] A [] (mW L cs pn cn pc cc) w)(r:Int)(hr:r<=9223372036854775807)(hl:L.length<=274877906944):Calls Tryz.prog 25 #[.pointer (some ⟨b,0,none⟩),.int .i64 r] w λ e w'=>∃q:Unit,e=.returned (aB L r).nd.v/\True /\
  SF w D [(b,mO L cs gen acc pn cn pc cc)] [] [] (mW L cs pn cn pc cc) w':=by
 rcases Int.lt_or_le r 1 with h|h
 ·exact lz hs r h
 ·obtain⟨k,rfl⟩:∃k:Nat,r=((k+1:Nat):Int):=⟨(r-1).toNat,by omega⟩
  exact fx hs (by omega) hl
end

/- Alloc of the two memories. -/
section
open Go.RowKit Go.Ct
variable{w:World}{D:List Nat}{b:Nat}{L:List aP}{cs:List Int}{gen acc:Int}{pn pc:Option Addr}{cn cc:Nat}{A:Fr}
theorem A3 {n : Nd} {xs : List Int} {ys : List Pr} (init : Int) (hs : SF w D [(b, mO L cs gen acc pn cn pc cc)] [(n.brA, aG xs), (n.prA, cU ys)] [] (mW L cs pn cn pc cc) w) (e1 : n.brN = xs.length) (e2 : n.prN = ys.length) (h1 : xs.length ≤ 274877906944) (h2 : ys.length ≤ 274877906944)
    (hl : L.length ≤ 274877906944) (hc : cs.length ≤ 274877906944) :
    Calls Tryz.prog 92 #[.pointer (some ⟨b, 0, none⟩), n.v, .int .i64 init] w fun e w' => ∃ x : AX, e = .returned (.int .i64 ((L.length + 1 : Nat) : Int)) ∧ True ∧
      SF w D [(b, mO (L ++ [kV n xs ys cs.length x]) (fU n.kind cs init) gen acc x.pn x.cn x.pc x.cc)] [] (kV n xs ys cs.length x).fr (mW (L ++ [kV n xs ys cs.length x]) (fU n.kind cs init) x.pn x.cn x.pc x.cc) w' := by
  refine enter Tryz.func92 Tryz.ntmps92 rfl rfl (yQ hs) ?_
  simp only [bX]
  simp only [Nd.v, Nd.cells]
  refine J0 ?_; refine bI (fun x4 => ?_); refine J1 ?_; refine J0 ?_; refine aE ?_; refine gY (fun _ => ?_); refine aE ?_; refine gY (fun _ => ?_); refine uK ?_; refine Dk ?_; refine aH ?_; refine cR ?_; refine lN ?_
  refine bB (fun c12 => ?_) (fun c12 => ?_)
  · try (exfalso; omega)
    refine I2 ?_; refine aD (cM (hc := fun w hs => lK init hs hc)) (fun x16 h16 => ?_); refine uK ?_; refine fK ?_; refine J0 ?_; refine iM (fun x32 => ?_); refine J3 ?_; (refine fG (fun x35 => ?_); try (refine eX (fun h35 => ?_))); refine uK ?_; refine J0 ?_; refine iM (fun x37 => ?_); refine J3 ?_; (refine fG (fun x40 => ?_); try (refine eX (fun h40 => ?_))); refine uK ?_; refine aV ?_; refine dK [(0, []), (1, []), (2, []), (3, []), (4, []), (5, []), (6, []), (7, [5]), (8, []), (9, []), (10, []), (11, []), (12, [])] ?_; refine aN ?_; refine yC ?_; refine bG ?_; refine bV (h := fun x49 => ?_); ((refine cH (i := 8) (hq := (bE.eN (fT (sz := 14) rf rf zB (by rw [dX]) fin rfl rfl Nn rfl (by decide) fZ om) uD)) (h := fun x50 => ?_); try (refine eC (fun h50 => ?_)))); refine J4 ?_; refine aR ?_; refine vZ ?_; refine Ia ?_; refine Nw ?_; refine J1 ?_
    refine aT Tryz.results92 (fun w hw => ?_)
    have h2 := (hw.freeze .head).freeze .head
    simp only [rF, List.nil_append] at h2
    have h3 := h2.aU (H' := [(b, _)]) (F' := [(x35.1, aG xs), (x40.1, cU ys)]) (O' := [_, _])
    exact ⟨⟨x50.1, x50.2, x16.1, x16.2, x35.1, x35.2, x40.1, x40.2⟩, rfl, trivial, by simpa [mO, aO, mW, kV, aP.fr, fU, jN, Nd.cells, *] using h3⟩
  · try (exfalso; omega)
    refine aV ?_; refine lN ?_
    refine bB (fun c18 => ?_) (fun c18 => ?_)
    · try (exfalso; omega)
      refine bA ?_
      refine bB (fun c18 => ?_) (fun c18 => ?_)
      · try (exfalso; omega)
        refine I2 ?_; refine aD (cM (hc := fun w hs => lK init hs hc)) (fun x24 h24 => ?_); refine uK ?_; refine fK ?_; refine J0 ?_; refine iM (fun x32 => ?_); refine J3 ?_; (refine fG (fun x35 => ?_); try (refine eX (fun h35 => ?_))); refine uK ?_; refine J0 ?_; refine iM (fun x37 => ?_); refine J3 ?_; (refine fG (fun x40 => ?_); try (refine eX (fun h40 => ?_))); refine uK ?_; refine aV ?_; refine dK [(0, []), (1, []), (2, []), (3, []), (4, []), (5, []), (6, []), (7, [5]), (8, []), (9, []), (10, []), (11, []), (12, [])] ?_; refine aN ?_; refine yC ?_; refine bG ?_; refine bV (h := fun x49 => ?_); ((refine cH (i := 8) (hq := (bE.eN (fT (sz := 14) rf rf zB (by rw [dX]) fin rfl rfl Nn rfl (by decide) fZ om) uD)) (h := fun x50 => ?_); try (refine eC (fun h50 => ?_)))); refine J4 ?_; refine aR ?_; refine vZ ?_; refine Ia ?_; refine Nw ?_; refine J1 ?_
        refine aT Tryz.results92 (fun w hw => ?_)
        have h2 := (hw.freeze .head).freeze .head
        simp only [rF, List.nil_append] at h2
        have h3 := h2.aU (H' := [(b, _)]) (F' := [(x35.1, aG xs), (x40.1, cU ys)]) (O' := [_, _])
        exact ⟨⟨x50.1, x50.2, x24.1, x24.2, x35.1, x35.2, x40.1, x40.2⟩, rfl, trivial, by simpa [mO, aO, mW, kV, aP.fr, fU, jN, Nd.cells, *] using h3⟩
      · try (exfalso; omega)
    · try (exfalso; omega)
      refine lN ?_
      refine bB (fun c18 => ?_) (fun c18 => ?_)
      · try (exfalso; omega)
        refine bA ?_
        refine bB (fun c18 => ?_) (fun c18 => ?_)
        · try (exfalso; omega)
          refine I2 ?_; refine aD (cM (hc := fun w hs => lK init hs hc)) (fun x24 h24 => ?_); refine uK ?_; refine fK ?_; refine J0 ?_; refine iM (fun x32 => ?_); refine J3 ?_; (refine fG (fun x35 => ?_); try (refine eX (fun h35 => ?_))); refine uK ?_; refine J0 ?_; refine iM (fun x37 => ?_); refine J3 ?_; (refine fG (fun x40 => ?_); try (refine eX (fun h40 => ?_))); refine uK ?_; refine aV ?_; refine dK [(0, []), (1, []), (2, []), (3, []), (4, []), (5, []), (6, []), (7, [5]), (8, []), (9, []), (10, []), (11, []), (12, [])] ?_; refine aN ?_; refine yC ?_; refine bG ?_; refine bV (h := fun x49 => ?_); ((refine cH (i := 8) (hq := (bE.eN (fT (sz := 14) rf rf zB (by rw [dX]) fin rfl rfl Nn rfl (by decide) fZ om) uD)) (h := fun x50 => ?_); try (refine eC (fun h50 => ?_)))); refine J4 ?_; refine aR ?_; refine vZ ?_; refine Ia ?_; refine Nw ?_; refine J1 ?_
          refine aT Tryz.results92 (fun w hw => ?_)
          have h2 := (hw.freeze .head).freeze .head
          simp only [rF, List.nil_append] at h2
          have h3 := h2.aU (H' := [(b, _)]) (F' := [(x35.1, aG xs), (x40.1, cU ys)]) (O' := [_, _])
          exact ⟨⟨x50.1, x50.2, x24.1, x24.2, x35.1, x35.2, x40.1, x40.2⟩, rfl, trivial, by simpa [mO, aO, mW, kV, aP.fr, fU, jN, Nd.cells, *] using h3⟩
        · try (exfalso; omega)
      · try (exfalso; omega)
        refine dL ?_; refine Ro ?_
        refine bB (fun c18 => ?_) (fun c18 => ?_)
        · try (exfalso; omega)
          refine I2 ?_; refine aD (cM (hc := fun w hs => lK init hs hc)) (fun x24 h24 => ?_); refine uK ?_; refine fK ?_; refine J0 ?_; refine iM (fun x32 => ?_); refine J3 ?_; (refine fG (fun x35 => ?_); try (refine eX (fun h35 => ?_))); refine uK ?_; refine J0 ?_; refine iM (fun x37 => ?_); refine J3 ?_; (refine fG (fun x40 => ?_); try (refine eX (fun h40 => ?_))); refine uK ?_; refine aV ?_; refine dK [(0, []), (1, []), (2, []), (3, []), (4, []), (5, []), (6, []), (7, [5]), (8, []), (9, []), (10, []), (11, []), (12, [])] ?_; refine aN ?_; refine yC ?_; refine bG ?_; refine bV (h := fun x49 => ?_); ((refine cH (i := 8) (hq := (bE.eN (fT (sz := 14) rf rf zB (by rw [dX]) fin rfl rfl Nn rfl (by decide) fZ om) uD)) (h := fun x50 => ?_); try (refine eC (fun h50 => ?_)))); refine J4 ?_; refine aR ?_; refine vZ ?_; refine Ia ?_; refine Nw ?_; refine J1 ?_
          refine aT Tryz.results92 (fun w hw => ?_)
          have h2 := (hw.freeze .head).freeze .head
          simp only [rF, List.nil_append] at h2
          have h3 := h2.aU (H' := [(b, _)]) (F' := [(x35.1, aG xs), (x40.1, cU ys)]) (O' := [_, _])
          exact ⟨⟨x50.1, x50.2, x24.1, x24.2, x35.1, x35.2, x40.1, x40.2⟩, rfl, trivial, by simpa [mO, aO, mW, kV, aP.fr, fU, jN, Nd.cells, *] using h3⟩
        · try (exfalso; omega)
          refine lN ?_
          refine bB (fun c26 => ?_) (fun c26 => ?_)
          · try (exfalso; omega)
            refine I2 ?_; refine aD (cM (hc := fun w hs => lK init hs hc)) (fun x30 h30 => ?_); refine uK ?_; refine fK ?_; refine J0 ?_; refine iM (fun x32 => ?_); refine J3 ?_; (refine fG (fun x35 => ?_); try (refine eX (fun h35 => ?_))); refine uK ?_; refine J0 ?_; refine iM (fun x37 => ?_); refine J3 ?_; (refine fG (fun x40 => ?_); try (refine eX (fun h40 => ?_))); refine uK ?_; refine aV ?_; refine dK [(0, []), (1, []), (2, []), (3, []), (4, []), (5, []), (6, []), (7, [5]), (8, []), (9, []), (10, []), (11, []), (12, [])] ?_; refine aN ?_; refine yC ?_; refine bG ?_; refine bV (h := fun x49 => ?_); ((refine cH (i := 8) (hq := (bE.eN (fT (sz := 14) rf rf zB (by rw [dX]) fin rfl rfl Nn rfl (by decide) fZ om) uD)) (h := fun x50 => ?_); try (refine eC (fun h50 => ?_)))); refine J4 ?_; refine aR ?_; refine vZ ?_; refine Ia ?_; refine Nw ?_; refine J1 ?_
            refine aT Tryz.results92 (fun w hw => ?_)
            have h2 := (hw.freeze .head).freeze .head
            simp only [rF, List.nil_append] at h2
            have h3 := h2.aU (H' := [(b, _)]) (F' := [(x35.1, aG xs), (x40.1, cU ys)]) (O' := [_, _])
            exact ⟨⟨x50.1, x50.2, x30.1, x30.2, x35.1, x35.2, x40.1, x40.2⟩, rfl, trivial, by simpa [mO, aO, mW, kV, aP.fr, fU, jN, Nd.cells, *] using h3⟩
          · try (exfalso; omega)
            refine nZ ?_; refine J0 ?_; refine iM (fun x32 => ?_); refine J3 ?_; (refine fG (fun x35 => ?_); try (refine eX (fun h35 => ?_))); refine uK ?_; refine J0 ?_; refine iM (fun x37 => ?_); refine J3 ?_; (refine fG (fun x40 => ?_); try (refine eX (fun h40 => ?_))); refine uK ?_; refine aV ?_; refine dK [(0, []), (1, []), (2, []), (3, []), (4, []), (5, []), (6, []), (7, [5]), (8, []), (9, []), (10, []), (11, []), (12, [])] ?_; refine aN ?_; refine yC ?_; refine bG ?_; refine bV (h := fun x49 => ?_); ((refine cH (i := 8) (hq := (bE.eN (fT (sz := 14) rf rf zB (by rw [dX]) fin rfl rfl Nn rfl (by decide) fZ om) uD)) (h := fun x50 => ?_); try (refine eC (fun h50 => ?_)))); refine J4 ?_; refine aR ?_; refine vZ ?_; refine Ia ?_; refine Nw ?_; refine J1 ?_
            refine aT Tryz.results92 (fun w hw => ?_)
            have h2 := (hw.freeze .head).freeze .head
            simp only [rF, List.nil_append] at h2
            have h3 := h2.aU (H' := [(b, _)]) (F' := [(x35.1, aG xs), (x40.1, cU ys)]) (O' := [_, _])
            exact ⟨⟨x50.1, x50.2, pc, cc, x35.1, x35.2, x40.1, x40.2⟩, rfl, trivial, by simpa [mO, aO, mW, kV, aP.fr, fU, jN, Nd.cells, *] using h3⟩
theorem nI{m c:Nat}{p:Option Addr}{v1 v2 v3:Value}(hs:SF w D [(b,.cells ⟨[.slice p m c,v1,v2,v3]⟩ 139 (0,0))] A [] [] w)(hl:m<=274877906945):Calls Tryz.prog 81 #[.pointer (some ⟨b,0,none⟩)] w λ e w'=>∃q:Unit,e=.returned (.int .i64 ((m+2:Nat):Int))/\True /\
  SF w D [(b,.cells ⟨[.slice p m c,v1,v2,v3]⟩ 139 (0,0))] [] [] [] w':=by
 refine enter Tryz.func81 Tryz.ntmps81 rfl rfl hs ?_
 simp only[bX]
 refine cO ?_;refine lW ?_;refine dB ?_;refine Gb ?_;refine J1 ?_
 refine aT Tryz.results81 (λ w hw=>?_)
 exact⟨(),by rw[show(2:Int)+(m:Int)=((m+2:Nat):Int) by omega];rfl,trivial,hw.aU⟩
theorem Z5 {n : Nd} {xs : List Int} {ys : List Pr} (init : Int) (hs : SF w D [(b, aO L cs gen acc pn cn pc cc)] [(n.brA, aG xs), (n.prA, cU ys)] [] (mW L cs pn cn pc cc) w) (e1 : n.brN = xs.length) (e2 : n.prN = ys.length) (h1 : xs.length ≤ 274877906944) (h2 : ys.length ≤ 274877906944)
    (hl : L.length ≤ 274877906944) (hc : cs.length ≤ 274877906944) :
    Calls Tryz.prog 29 #[.pointer (some ⟨b, 0, none⟩), n.v, .int .i64 init] w fun e w' => ∃ x : AX, e = .returned (.int .i64 ((L.length + 3 : Nat) : Int)) ∧ True ∧
      SF w D [(b, aO (L ++ [kV n xs ys cs.length x]) (fU n.kind cs init) gen acc x.pn x.cn x.pc x.cc)] [] (kV n xs ys cs.length x).fr (mW (L ++ [kV n xs ys cs.length x]) (fU n.kind cs init) x.pn x.cn x.pc x.cc) w' := by
  refine enter Tryz.func29 Tryz.ntmps29 rfl rfl (yY hs) ?_
  simp only [bX]
  simp only [Nd.v, Nd.cells]
  refine J0 ?_; refine bI (fun x4 => ?_); refine J1 ?_; refine nQ ?_; refine aD (cF (V := fun p : Option Addr × Option Addr => .agg ⟨[.int .i64 n.kind, .int .i64 n.gen, .int .i64 n.main, .int .u64 n.bm, .slice p.1 n.brN xs.length, .int .u64 n.hash, .string n.key, .int .u64 n.val, .slice p.2 n.prN ys.length, .int .i64 n.prev, .int .i64 n.bK, .int .i64 n.exp, .int .i64 n.new, .int .i64 n.status]⟩) (hc := fun w1 hw => U5 (n := n) ⟨e1, e2, hw.cl (.bK .head), hw.cl (.bK (.tail .head)), by omega, by omega⟩ (by omega) (by omega))) (fun x8 h8 => ?_); refine J5 ?_; refine J0 ?_; refine aE ?_; refine gY (fun _ => ?_); refine aE ?_; refine gY (fun _ => ?_); refine uK ?_; refine Dg ?_; refine gZ ?_; refine Ro ?_
  refine bB (fun c12 => ?_) (fun c12 => ?_)
  · try (exfalso; omega)
    refine I2 ?_; refine aD (cM (hc := fun w hs => zN init hs hc)) (fun x18 h18 => ?_); refine uK ?_; refine fK ?_; refine aV ?_; refine dK [(0, []), (1, []), (2, []), (3, []), (4, []), (5, []), (6, [4]), (7, []), (8, []), (9, []), (10, [])] ?_; refine Y0 ?_; refine bG ?_; refine bV (h := fun x41 => ?_); ((refine cH (i := 7) (hq := (bE.eN (fT (sz := 14) rf rf zB (by rw [dX]) fin rfl rfl Nn rfl (by decide) fZ om) uD)) (h := fun x42 => ?_); try (refine eC (fun h42 => ?_)))); refine J88 ?_; refine J2 ?_; refine aD (cM (hc := fun w hs => nI (m := L.length + 1) hs (by omega))) (fun x46 h46 => ?_); refine J1 ?_
    refine aT Tryz.results29 (fun w hw => ?_)
    have h3 := hw.aU (H' := [(b, _)]) (F' := [(x8.1, aG xs), (x8.2, cU ys)]) (O' := [_, _])
    exact ⟨⟨x42.1, x42.2, x18.1, x18.2, x8.1, xs.length, x8.2, ys.length⟩, rfl, trivial, by simpa [mO, aO, mW, kV, aP.fr, fU, jN, Nd.cells, *] using h3⟩
  · try (exfalso; omega)
    refine nQ ?_; refine aD (c0 (V := .bool) (hc := fun w1 hw => Sw ({ n with main := 0, prev := 0, status := 0, brA := x8.1, brC := xs.length, prA := x8.2, cU := ys.length } : Nd) w1)) (fun x22 h22 => ?_); refine J1 ?_
    refine bB (fun c20 => ?_) (fun c20 => ?_)
    · try (exfalso; omega)
      have k22 : n.kind = 3 ∨ n.kind = 5 ∨ n.kind = 6 := h22.1 c20
      rcases k22 with k22 | k22 | k22
      all_goals (refine I2 ?_; refine aD (cM (hc := fun w hs => zN init hs hc)) (fun x25 h25 => ?_); refine uK ?_; refine fK ?_; refine aV ?_; refine dK [(0, []), (1, []), (2, []), (3, []), (4, []), (5, []), (6, [4]), (7, []), (8, []), (9, []), (10, [])] ?_; refine Y0 ?_; refine bG ?_; refine bV (h := fun x41 => ?_); ((refine cH (i := 7) (hq := (bE.eN (fT (sz := 14) rf rf zB (by rw [dX]) fin rfl rfl Nn rfl (by decide) fZ om) uD)) (h := fun x42 => ?_); try (refine eC (fun h42 => ?_)))); refine J88 ?_; refine J2 ?_; refine aD (cM (hc := fun w hs => nI (m := L.length + 1) hs (by omega))) (fun x46 h46 => ?_); refine J1 ?_)
      all_goals
       refine aT Tryz.results29 (fun w hw => ?_)
       have h3 := hw.aU (H' := [(b, _)]) (F' := [(x8.1, aG xs), (x8.2, cU ys)]) (O' := [_, _])
       exact ⟨⟨x42.1, x42.2, x25.1, x25.2, x8.1, xs.length, x8.2, ys.length⟩, rfl, trivial, by simpa [mO, aO, mW, kV, aP.fr, fU, jN, Nd.cells, *] using h3⟩
    · try (exfalso; omega)
      have k22 : ¬ (n.kind = 3 ∨ n.kind = 5 ∨ n.kind = 6) := fun k => by rw [h22.2 k] at c20; cases c20
      obtain ⟨k3, k56⟩ := not_or.1 k22
      obtain ⟨k5, k6⟩ := not_or.1 k56
      refine gZ ?_; refine Ro ?_
      refine bB (fun c27 => ?_) (fun c27 => ?_)
      · try (exfalso; omega)
        refine I2 ?_; refine aD (cM (hc := fun w hs => zN init hs hc)) (fun x33 h33 => ?_); refine uK ?_; refine fK ?_; refine aV ?_; refine dK [(0, []), (1, []), (2, []), (3, []), (4, []), (5, []), (6, [4]), (7, []), (8, []), (9, []), (10, [])] ?_; refine Y0 ?_; refine bG ?_; refine bV (h := fun x41 => ?_); ((refine cH (i := 7) (hq := (bE.eN (fT (sz := 14) rf rf zB (by rw [dX]) fin rfl rfl Nn rfl (by decide) fZ om) uD)) (h := fun x42 => ?_); try (refine eC (fun h42 => ?_)))); refine J88 ?_; refine J2 ?_; refine aD (cM (hc := fun w hs => nI (m := L.length + 1) hs (by omega))) (fun x46 h46 => ?_); refine J1 ?_
        refine aT Tryz.results29 (fun w hw => ?_)
        have h3 := hw.aU (H' := [(b, _)]) (F' := [(x8.1, aG xs), (x8.2, cU ys)]) (O' := [_, _])
        exact ⟨⟨x42.1, x42.2, x33.1, x33.2, x8.1, xs.length, x8.2, ys.length⟩, rfl, trivial, by simpa [mO, aO, mW, kV, aP.fr, fU, jN, Nd.cells, *] using h3⟩
      · try (exfalso; omega)
        refine nZ ?_; refine aV ?_; refine dK [(0, []), (1, []), (2, []), (3, []), (4, []), (5, []), (6, [4]), (7, []), (8, []), (9, []), (10, [])] ?_; refine Y0 ?_; refine bG ?_; refine bV (h := fun x41 => ?_); ((refine cH (i := 7) (hq := (bE.eN (fT (sz := 14) rf rf zB (by rw [dX]) fin rfl rfl Nn rfl (by decide) fZ om) uD)) (h := fun x42 => ?_); try (refine eC (fun h42 => ?_)))); refine J88 ?_; refine J2 ?_; refine aD (cM (hc := fun w hs => nI (m := L.length + 1) hs (by omega))) (fun x46 h46 => ?_); refine J1 ?_
        refine aT Tryz.results29 (fun w hw => ?_)
        have h3 := hw.aU (H' := [(b, _)]) (F' := [(x8.1, aG xs), (x8.2, cU ys)]) (O' := [_, _])
        exact ⟨⟨x42.1, x42.2, pc, cc, x8.1, xs.length, x8.2, ys.length⟩, rfl, trivial, by simpa [mO, aO, mW, kV, aP.fr, fU, jN, Nd.cells, *] using h3⟩
end

end Go.Proofs.YtbajmaoegmbfgaaGreat
