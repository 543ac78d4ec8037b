/- Nodes are made; lists are copied. -/
import Derived.Test.YtadnboagdhcedaaGreatDoorGNode2
import Derived.Test.YtadnboagdhcedaaGreatDoorGJoin
import Derived.Test.YtadnboagdhcedaaGreatDoorGMem
import Derived.Test.YtadnboagdhcedaaGreatDoorAuto

set_option linter.unusedSimpArgs false
set_option linter.unusedVariables false
namespace Go.Proofs.YtadnboagdhcedaaGreatDoor
section
open Go.RowKit Go.Ct
theorem SF.z5{w w':World}{F:Fr}{o:Ow}(h:SF w [] [] [] F [o] w'):SF w [] [] [] ((o.p,o.cs)::F) [] w':=h.freeze .head (by simp)
theorem SF.y8{w w':World}{F:Fr}{o o2:Ow}(h:SF w [] [] [] F [o,o2] w'):SF w [] [] [] ((o2.p,o2.cs)::(o.p,o.cs)::F) [] w':=(h.freeze .head (by simp)).freeze .head (by simp)
theorem Ot:uI Tryz.prog 137 24=true:=by kernel_rfl
theorem Tf:uI Tryz.prog 62 8=true:=by kernel_rfl
theorem Sn{l:List Pr}{a:Option Addr}{c:Nat}{w:World}(ha:Cl w a (cZ l))(hl:l.length<=11728124029610):Calls Tryz.prog 135 #[.slice a l.length c] w λ e w' =>
  ∃p:Option Addr,e=.returned (.slice p l.length l.length)/\(l=[]->p=none)/\SF w [] [] [] [] [⟨p,cZ l,l.length,137,2⟩] w':=by
 refine enter Tryz.func135 Tryz.ntmps135 rfl rfl (SF.s1 ha) ?_
 simp only[cR]
 refine Ka7 ?_;refine dF ?_;refine rR ?_
 refine aZ (λ c6=>?_) (λ c6=>?_)
 ·have hl0:l=[]:=List.eq_nil_of_length_eq_zero (by omega)
  subst hl0
  refine cN ?_
  refine aN Tryz.results135 (λ w hw=>?_)
  exact⟨none,rfl,λ _=>rfl,(hw.lI 137 2).aU⟩
 ·refine bA ?_;refine J2 ?_;refine dF ?_;refine aR (Y9 rf rf vy Ot om om) (λ x9=>?_);refine tZ ?_;refine Vx (λ x12=>?_);refine aI ?_;refine Ka6 ?_
  refine aN Tryz.results135 (λ w hw=>?_)
  exact⟨some ⟨x9,0,none⟩,rfl,λ h=>absurd (congrArg List.length h) (by simpa using c6),by simpa using hw.aU (H':=[]) (F':=[])⟩
theorem Ua{l:List Int}{a:Option Addr}{c:Nat}{w:World}(ha:Cl w a (aG l))(hl:l.length<=35184372088832):Calls Tryz.prog 134 #[.slice a l.length c] w λ e w' =>
  ∃p:Option Addr,e=.returned (.slice p l.length l.length)/\(l=[]->p=none)/\SF w [] [] [] [] [⟨p,aG l,l.length,62,1⟩] w':=by
 refine enter Tryz.func134 Tryz.ntmps134 rfl rfl (SF.s1 ha) ?_
 simp only[cR]
 refine Ka7 ?_;refine dF ?_;refine rR ?_
 refine aZ (λ c6=>?_) (λ c6=>?_)
 ·have hl0:l=[]:=List.eq_nil_of_length_eq_zero (by omega)
  subst hl0
  refine cN ?_
  refine aN Tryz.results134 (λ w hw=>?_)
  exact⟨none,rfl,λ _=>rfl,(hw.lI 62 1).aU⟩
 ·refine bA ?_;refine J2 ?_;refine dF ?_;refine aR (Yx rf rf U3 Tf om om) (λ x9=>?_);refine tZ ?_;refine Vx (λ x12=>?_);refine aI ?_;refine Ka6 ?_
  refine aN Tryz.results134 (λ w hw=>?_)
  exact⟨some ⟨x9,0,none⟩,rfl,λ h=>absurd (congrArg List.length h) (by simpa using c6),by simpa using hw.aU (H':=[]) (F':=[])⟩
theorem cr{n:Nd}{xs:List Int}{ys:List Pr}{w:World}(hr:pT w n xs ys)(h1:xs.length<=35184372088832)(h2:ys.length<=11728124029610):Calls Tryz.prog 98 #[n.v] w λ e w' =>
  ∃p:Option Addr×Option Addr,e=.returned ({n with brA:=p.1,brC:=xs.length,prA:=p.2,cZ:=ys.length}:Nd).v/\((xs=[]->p.1=none)/\(ys=[]->p.2=none))/\SF w [] [] [] [] [⟨p.2,cZ ys,ys.length,137,2⟩,⟨p.1,aG xs,xs.length,62,1⟩] w':=by
 have e1:=hr.brN;have e2:=hr.prN
 refine enter Tryz.func98 Tryz.ntmps98 rfl rfl (SF.s2 hr.br hr.pr) ?_
 simp only[cR]
 simp only[Nd.v,Nd.cells]
 refine J0 ?_;refine bP (λ x1=>?_);refine aP (λ x2=>?_);refine aI ?_;refine gN ?_;refine aC (cj (Hc:=λ _=>[]) (Fc:=λ _=>[]) (hc:=λ w1 hw=>by rw[e1];exact Ua (hw.cl fin) h1)) (λ x5 h5=>?_);refine wN ?_;refine gN ?_;refine aC (cj (Hc:=λ _=>[]) (Fc:=λ _=>[]) (hc:=λ w1 hw=>by rw[e2];exact Sn (hw.cl fin) h2)) (λ x9 h9=>?_);refine wN ?_;refine Kb1 ?_
 refine bJ Tryz.results98 (λ w hw=>?_)
 exact⟨(x5,x9),by rw[e1,e2];rfl,⟨h5,h9⟩,hw.aU⟩
theorem jd{n:Nd}{xs:List Int}{ys:List Pr}{w:World}(hr:pT w n xs ys)(h1:xs.length<=35184372088832)(h2:ys.length<=11728124029610):Calls Tryz.prog 98 #[n.v] w λ e w' =>
  ∃p:Option Addr×Option Addr,e=.returned ({n with brA:=p.1,brC:=xs.length,prA:=p.2,cZ:=ys.length}:Nd).v/\((xs=[]->p.1=none)/\(ys=[]->p.2=none))/\SF w [] [] [] [(p.1,aG xs),(p.2,cZ ys)] [] w':=(cr hr h1 h2).mono λ _ _ ⟨p,he,hp,hs⟩=>⟨p,he,hp,SF.y8 hs⟩
end

/- Nodes of memories: New, Node, Alloc. -/
end Go.Proofs.YtadnboagdhcedaaGreatDoor
namespace Go.Ct
section
def cK:aK:=⟨{Nd.zero with kind:=1},[],[]⟩
def aA(L:List aK)(r:Int):aK:=if 1<=r/\r<=L.length then L.getD (r-1).toNat aK.zero else aK.zero
theorem xJ{L:List aK}{r:Int}(h:¬(1<=r/\r<=L.length)):aA L r=aK.zero:=if_neg h
theorem fH{L:List aK}{k:Nat}(h:k<L.length):aA L ((k+1:Nat):Int)=L.getD k aK.zero:=by
 unfold aA
 rw[if_pos (by omega),show(((k+1:Nat):Int)-1).toNat=k by omega]
def oh(L:List aK):List aK:=cK::cK::L
theorem U5:cK.Fit:=⟨rfl,rfl,by decide,by decide⟩
theorem S4{L:List aK}(h:Fits L)(r:Int):(aA L r).Fit:=by
 unfold aA
 split
 ·rename_i hr
  exact h.at (by omega)
 ·exact L6
structure AX where
 pn:Option Addr
 cn:Nat
 pc:Option Addr
 cc:Nat
 b1:Option Addr
 c1:Nat
 b2:Option Addr
 c2:Nat
def fZ(k:Int)(cs:List Int)(init:Int):List Int:=if k=2∨k=3∨k=5∨k=6∨k=8 then cs++[init] else cs
def jY(n:Nd)(xs:List Int)(ys:List Pr)(c:Nat)(x:AX):aK :=
 aK.mk {n with main:=if n.kind=2 then((c+1:Nat):Int) else 0,prev:=if n.kind=3∨n.kind=5∨n.kind=6 then((c+1:Nat):Int) else 0,status:=if n.kind=8 then((c+1:Nat):Int) else 0,brA:=x.b1,brN:=xs.length,brC:=x.c1,prA:=x.b2,prN:=ys.length,cZ:=x.c2} xs ys
theorem Ak{k:Int}{cs:List Int}{init:Int}:cs.length<=(fZ k cs init).length/\(fZ k cs init).length<=cs.length+1:=by unfold fZ;split<;>simp
theorem H0{n:Nd}{xs:List Int}{ys:List Pr}{c:Nat}{x:AX}(h1:xs.length<=35184372088832)(h2:ys.length<=11728124029610):(jY n xs ys c x).Fit:=⟨rfl,rfl,h1,h2⟩
def aK.at_(v:aK)(p q:Option Addr):aK:=⟨{v.nd with brA:=p,brC:=v.xs.length,prA:=q,cZ:=v.ys.length},v.xs,v.ys⟩
theorem aK.pb{v:aK}(h:v.Fit)(p q:Option Addr):(v.at_ p q).Fit:=⟨h.brN,h.prN,h.brS,h.prS⟩
end
end Go.Ct
namespace Go.Proofs.YtadnboagdhcedaaGreatDoor
section
open Go.RowKit Go.Ct
variable{w:World}{D:List Nat}{b:Nat}{L:List aK}{cs:List Int}{gen acc:Int}{pn pc:Option Addr}{cn cc:Nat}{A:Fr}
theorem Zp(w:World):Calls Tryz.prog 22 #[] w λ e w'=>∃q:Nat×Option Addr,e=.returned (.pointer (some ⟨q.1,0,none⟩))/\True /\
  SF w [] [(q.1,mO [cK,cK] [] 0 0 q.2 2 none 0)] [] [] (mW [cK,cK] [] q.2 2 none 0) w':=by
 refine enter Tryz.func22 Tryz.ntmps22 rfl rfl (SF.s0 w) ?_
 simp only[cR]
 refine cN ?_;refine J0 ?_;refine bD ?_;refine bD ?_;refine aR (Na (c:=2) (sz:=14) rfl (λ _=>cS pS L9 rfl rfl rfl rfl (by simp only[Cv,mK,List.cons_append,List.nil_append];exact rfl))) (λ x3=>?_);refine bD ?_;refine bD ?_;refine bP (λ x6=>?_);refine J1 ?_
 refine aN Tryz.results22 (λ w hw=>?_)
 exact⟨(x6,some ⟨x3,0,none⟩),rfl,trivial,(SF.Y6 (hw.lI 62 1)).aU⟩
theorem Xj(hs:SF w D [(b,mO L cs gen acc pn cn pc cc)] A [] (mW L cs pn cn pc cc) w)(r:Int)(hr:r<1):Calls Tryz.prog 144 #[.pointer (some ⟨b,0,none⟩),.int .i64 r] w λ e w'=>∃q:Unit,e=.returned (aA L r).nd.v/\True /\
  SF w D [(b,mO L cs gen acc pn cn pc cc)] [] [] (mW L cs pn cn pc cc) w':=by
 refine enter Tryz.func144 Tryz.ntmps144 rfl rfl (rN hs) ?_
 simp only[cR]
 refine J0 ?_;refine aP (λ x4=>?_);refine aI ?_;refine kT ?_;refine Gq ?_
 (refine eR 7 (λ g7=>?_) (λ g7=>?_)<;>(try (exfalso;omega))<;>(refine aH ?_))
 refine nz ?_;refine Uf ?_;refine Kc1 ?_
 refine aZ (λ c16=>?_) (λ c16=>?_)
 ·try (exfalso;omega)
  refine J0 ?_;refine yH ?_
  refine bJ Tryz.results144 (λ w hw=>?_)
  exact⟨(),by rw[xJ (by omega)];rfl,trivial,hw.aU⟩
 ·exact nv c16
theorem X4(hs:SF w D [(b,mO L cs gen acc pn cn pc cc)] A [] (mW L cs pn cn pc cc) w){k:Nat}(hk:(k:Int)<9223372036854775807)(hl:L.length<=274877906944):Calls Tryz.prog 144 #[.pointer (some ⟨b,0,none⟩),.int .i64 ((k+1:Nat):Int)] w λ e w'=>∃q:Unit,e=.returned (aA L ((k+1:Nat):Int)).nd.v/\True /\
  SF w D [(b,mO L cs gen acc pn cn pc cc)] [] [] (mW L cs pn cn pc cc) w':=by
 refine enter Tryz.func144 Tryz.ntmps144 rfl rfl (rN hs) ?_
 simp only[cR]
 refine J0 ?_;refine aP (λ x4=>?_);refine aI ?_;refine kT ?_;refine Gq ?_
 (refine Ka3 ?_)
 refine nz ?_;refine Uf ?_;refine Kc1 ?_
 refine aZ (λ c16=>?_) (λ c16=>?_)
 ·try (exfalso;omega)
  refine J0 ?_;refine yH ?_
  refine bJ Tryz.results144 (λ w hw=>?_)
  (exact⟨(),by rw[xJ (by omega)];rfl,trivial,hw.aU⟩)
 ·try (exfalso;omega)
  refine bA ?_;refine E0 ?_;refine J3 ?_;refine aB ?_;refine oP ?_;refine Ue ?_;refine J5 ?_
  refine bJ Tryz.results144 (λ w hw=>?_)
  (exact⟨(),by rw[fH (by omega)];rfl,trivial,hw.aU⟩)
theorem ji(hs:SF w D [(b,mO L cs gen acc pn cn pc cc)] A [] (mW L cs pn cn pc cc) w)(r:Int)(hr:r<=9223372036854775807)(hl:L.length<=274877906944):Calls Tryz.prog 144 #[.pointer (some ⟨b,0,none⟩),.int .i64 r] w λ e w'=>∃q:Unit,e=.returned (aA L r).nd.v/\True /\
  SF w D [(b,mO L cs gen acc pn cn pc cc)] [] [] (mW L cs pn cn pc cc) w':=by
 rcases Int.lt_or_le r 1 with h|h
 ·exact Xj hs r h
 ·obtain⟨k,rfl⟩:∃k:Nat,r=((k+1:Nat):Int):=⟨(r-1).toNat,by omega⟩
  exact X4 hs (by omega) hl
end

/- Alloc of the two memories. -/
section
open Go.RowKit Go.Ct
variable{w:World}{D:List Nat}{b:Nat}{L:List aK}{cs:List Int}{gen acc:Int}{pn pc:Option Addr}{cn cc:Nat}{A:Fr}
theorem mB{n:Nd}{xs:List Int}{ys:List Pr}(init:Int)(hs:SF w D [(b,mO L cs gen acc pn cn pc cc)] [(n.brA,aG xs),(n.prA,cZ ys)] [] (mW L cs pn cn pc cc) w)(e1:n.brN=xs.length)(e2:n.prN=ys.length)(h1:xs.length<=274877906944)(h2:ys.length<=274877906944)
  (hl:L.length<=274877906944) (hc:cs.length<=274877906944) :
  Calls Tryz.prog 32 #[.pointer (some ⟨b,0,none⟩),n.v,.int .i64 init] w λ e w'=>∃x:AX,e=.returned (.int .i64 ((L.length+1:Nat):Int))/\True /\
   SF w D [(b,mO (L++[jY n xs ys cs.length x]) (fZ n.kind cs init) gen acc x.pn x.cn x.pc x.cc)] [] (jY n xs ys cs.length x).fr (mW (L++[jY n xs ys cs.length x]) (fZ n.kind cs init) x.pn x.cn x.pc x.cc) w':=by
 refine enter Tryz.func32 Tryz.ntmps32 rfl rfl (rN hs) ?_
 simp only[cR]
 simp only[Nd.v,Nd.cells]
 refine J0 ?_;refine bP (λ x4=>?_);refine J1 ?_;refine J0 ?_;refine aD ?_;refine lN (λ _=>?_);refine aD ?_;refine lN (λ _=>?_);refine wN ?_;refine yU ?_;refine Kc2 ?_;refine iT ?_
 refine aZ (λ c12=>?_) (λ c12=>?_)
 ·try (exfalso;omega)
  refine Mc ?_;refine aC (cM (hc:=λ w hs=>iI init hs hc)) (λ x16 h16=>?_);refine wN ?_;refine eV ?_;refine J0 ?_;refine gE (λ x32=>?_);refine J3 ?_;(refine eC (λ x35=>?_);try (refine eX (λ h35=>?_)));refine wN ?_;refine J0 ?_;refine gE (λ x37=>?_);refine J3 ?_;(refine eC (λ x40=>?_);try (refine eX (λ h40=>?_)));refine wN ?_;refine aS ?_;refine eD [(0,[]),(1,[]),(2,[]),(3,[]),(4,[]),(5,[]),(6,[]),(7,[5]),(8,[]),(9,[]),(10,[]),(11,[]),(12,[])] ?_;refine aT ?_;refine tA ?_;refine bN ?_;refine cQ (h:=λ x49=>?_);((refine dG (i:=8) (hq:=(bH.fG (jG (sz:=14) rf rf A5 (by rw[eF]) fin rfl rfl Ux rfl (by decide) fK om) yA)) (h:=λ x50=>?_);try (refine fP (λ h50=>?_))));refine J4 ?_;refine aQ ?_;refine Ei ?_;refine E0 ?_;refine Tt ?_;refine J1 ?_
  refine aN Tryz.results32 (λ w hw=>?_)
  have h2:=(hw.freeze .head).freeze .head
  simp only[pM,List.nil_append] at h2
  have h3:=h2.aU (H':=[(b,_)]) (F':=[(x35.1,aG xs),(x40.1,cZ ys)]) (O':=[_,_])
  exact⟨⟨x50.1,x50.2,x16.1,x16.2,x35.1,x35.2,x40.1,x40.2⟩,rfl,trivial,by simpa[mO,aO,mW,jY,aK.fr,fZ,nN,Nd.cells, *] using h3⟩
 ·try (exfalso;omega)
  refine aS ?_;refine iT ?_
  refine aZ (λ c18=>?_) (λ c18=>?_)
  ·try (exfalso;omega)
   refine bA ?_
   refine aZ (λ c18=>?_) (λ c18=>?_)
   ·try (exfalso;omega)
    refine Mc ?_;refine aC (cM (hc:=λ w hs=>iI init hs hc)) (λ x24 h24=>?_);refine wN ?_;refine eV ?_;refine J0 ?_;refine gE (λ x32=>?_);refine J3 ?_;(refine eC (λ x35=>?_);try (refine eX (λ h35=>?_)));refine wN ?_;refine J0 ?_;refine gE (λ x37=>?_);refine J3 ?_;(refine eC (λ x40=>?_);try (refine eX (λ h40=>?_)));refine wN ?_;refine aS ?_;refine eD [(0,[]),(1,[]),(2,[]),(3,[]),(4,[]),(5,[]),(6,[]),(7,[5]),(8,[]),(9,[]),(10,[]),(11,[]),(12,[])] ?_;refine aT ?_;refine tA ?_;refine bN ?_;refine cQ (h:=λ x49=>?_);((refine dG (i:=8) (hq:=(bH.fG (jG (sz:=14) rf rf A5 (by rw[eF]) fin rfl rfl Ux rfl (by decide) fK om) yA)) (h:=λ x50=>?_);try (refine fP (λ h50=>?_))));refine J4 ?_;refine aQ ?_;refine Ei ?_;refine E0 ?_;refine Tt ?_;refine J1 ?_
    refine aN Tryz.results32 (λ w hw=>?_)
    have h2:=(hw.freeze .head).freeze .head
    simp only[pM,List.nil_append] at h2
    have h3:=h2.aU (H':=[(b,_)]) (F':=[(x35.1,aG xs),(x40.1,cZ ys)]) (O':=[_,_])
    exact⟨⟨x50.1,x50.2,x24.1,x24.2,x35.1,x35.2,x40.1,x40.2⟩,rfl,trivial,by simpa[mO,aO,mW,jY,aK.fr,fZ,nN,Nd.cells, *] using h3⟩
   ·try (exfalso;omega)
  ·try (exfalso;omega)
   refine iT ?_
   refine aZ (λ c18=>?_) (λ c18=>?_)
   ·try (exfalso;omega)
    refine bA ?_
    refine aZ (λ c18=>?_) (λ c18=>?_)
    ·try (exfalso;omega)
     refine Mc ?_;refine aC (cM (hc:=λ w hs=>iI init hs hc)) (λ x24 h24=>?_);refine wN ?_;refine eV ?_;refine J0 ?_;refine gE (λ x32=>?_);refine J3 ?_;(refine eC (λ x35=>?_);try (refine eX (λ h35=>?_)));refine wN ?_;refine J0 ?_;refine gE (λ x37=>?_);refine J3 ?_;(refine eC (λ x40=>?_);try (refine eX (λ h40=>?_)));refine wN ?_;refine aS ?_;refine eD [(0,[]),(1,[]),(2,[]),(3,[]),(4,[]),(5,[]),(6,[]),(7,[5]),(8,[]),(9,[]),(10,[]),(11,[]),(12,[])] ?_;refine aT ?_;refine tA ?_;refine bN ?_;refine cQ (h:=λ x49=>?_);((refine dG (i:=8) (hq:=(bH.fG (jG (sz:=14) rf rf A5 (by rw[eF]) fin rfl rfl Ux rfl (by decide) fK om) yA)) (h:=λ x50=>?_);try (refine fP (λ h50=>?_))));refine J4 ?_;refine aQ ?_;refine Ei ?_;refine E0 ?_;refine Tt ?_;refine J1 ?_
     refine aN Tryz.results32 (λ w hw=>?_)
     have h2:=(hw.freeze .head).freeze .head
     simp only[pM,List.nil_append] at h2
     have h3:=h2.aU (H':=[(b,_)]) (F':=[(x35.1,aG xs),(x40.1,cZ ys)]) (O':=[_,_])
     exact⟨⟨x50.1,x50.2,x24.1,x24.2,x35.1,x35.2,x40.1,x40.2⟩,rfl,trivial,by simpa[mO,aO,mW,jY,aK.fr,fZ,nN,Nd.cells, *] using h3⟩
    ·try (exfalso;omega)
   ·try (exfalso;omega)
    refine dO ?_;refine M2 ?_
    refine aZ (λ c18=>?_) (λ c18=>?_)
    ·try (exfalso;omega)
     refine Mc ?_;refine aC (cM (hc:=λ w hs=>iI init hs hc)) (λ x24 h24=>?_);refine wN ?_;refine eV ?_;refine J0 ?_;refine gE (λ x32=>?_);refine J3 ?_;(refine eC (λ x35=>?_);try (refine eX (λ h35=>?_)));refine wN ?_;refine J0 ?_;refine gE (λ x37=>?_);refine J3 ?_;(refine eC (λ x40=>?_);try (refine eX (λ h40=>?_)));refine wN ?_;refine aS ?_;refine eD [(0,[]),(1,[]),(2,[]),(3,[]),(4,[]),(5,[]),(6,[]),(7,[5]),(8,[]),(9,[]),(10,[]),(11,[]),(12,[])] ?_;refine aT ?_;refine tA ?_;refine bN ?_;refine cQ (h:=λ x49=>?_);((refine dG (i:=8) (hq:=(bH.fG (jG (sz:=14) rf rf A5 (by rw[eF]) fin rfl rfl Ux rfl (by decide) fK om) yA)) (h:=λ x50=>?_);try (refine fP (λ h50=>?_))));refine J4 ?_;refine aQ ?_;refine Ei ?_;refine E0 ?_;refine Tt ?_;refine J1 ?_
     refine aN Tryz.results32 (λ w hw=>?_)
     have h2:=(hw.freeze .head).freeze .head
     simp only[pM,List.nil_append] at h2
     have h3:=h2.aU (H':=[(b,_)]) (F':=[(x35.1,aG xs),(x40.1,cZ ys)]) (O':=[_,_])
     exact⟨⟨x50.1,x50.2,x24.1,x24.2,x35.1,x35.2,x40.1,x40.2⟩,rfl,trivial,by simpa[mO,aO,mW,jY,aK.fr,fZ,nN,Nd.cells, *] using h3⟩
    ·try (exfalso;omega)
     refine iT ?_
     refine aZ (λ c26=>?_) (λ c26=>?_)
     ·try (exfalso;omega)
      refine Mc ?_;refine aC (cM (hc:=λ w hs=>iI init hs hc)) (λ x30 h30=>?_);refine wN ?_;refine eV ?_;refine J0 ?_;refine gE (λ x32=>?_);refine J3 ?_;(refine eC (λ x35=>?_);try (refine eX (λ h35=>?_)));refine wN ?_;refine J0 ?_;refine gE (λ x37=>?_);refine J3 ?_;(refine eC (λ x40=>?_);try (refine eX (λ h40=>?_)));refine wN ?_;refine aS ?_;refine eD [(0,[]),(1,[]),(2,[]),(3,[]),(4,[]),(5,[]),(6,[]),(7,[5]),(8,[]),(9,[]),(10,[]),(11,[]),(12,[])] ?_;refine aT ?_;refine tA ?_;refine bN ?_;refine cQ (h:=λ x49=>?_);((refine dG (i:=8) (hq:=(bH.fG (jG (sz:=14) rf rf A5 (by rw[eF]) fin rfl rfl Ux rfl (by decide) fK om) yA)) (h:=λ x50=>?_);try (refine fP (λ h50=>?_))));refine J4 ?_;refine aQ ?_;refine Ei ?_;refine E0 ?_;refine Tt ?_;refine J1 ?_
      refine aN Tryz.results32 (λ w hw=>?_)
      have h2:=(hw.freeze .head).freeze .head
      simp only[pM,List.nil_append] at h2
      have h3:=h2.aU (H':=[(b,_)]) (F':=[(x35.1,aG xs),(x40.1,cZ ys)]) (O':=[_,_])
      exact⟨⟨x50.1,x50.2,x30.1,x30.2,x35.1,x35.2,x40.1,x40.2⟩,rfl,trivial,by simpa[mO,aO,mW,jY,aK.fr,fZ,nN,Nd.cells, *] using h3⟩
     ·try (exfalso;omega)
      refine lC ?_;refine J0 ?_;refine gE (λ x32=>?_);refine J3 ?_;(refine eC (λ x35=>?_);try (refine eX (λ h35=>?_)));refine wN ?_;refine J0 ?_;refine gE (λ x37=>?_);refine J3 ?_;(refine eC (λ x40=>?_);try (refine eX (λ h40=>?_)));refine wN ?_;refine aS ?_;refine eD [(0,[]),(1,[]),(2,[]),(3,[]),(4,[]),(5,[]),(6,[]),(7,[5]),(8,[]),(9,[]),(10,[]),(11,[]),(12,[])] ?_;refine aT ?_;refine tA ?_;refine bN ?_;refine cQ (h:=λ x49=>?_);((refine dG (i:=8) (hq:=(bH.fG (jG (sz:=14) rf rf A5 (by rw[eF]) fin rfl rfl Ux rfl (by decide) fK om) yA)) (h:=λ x50=>?_);try (refine fP (λ h50=>?_))));refine J4 ?_;refine aQ ?_;refine Ei ?_;refine E0 ?_;refine Tt ?_;refine J1 ?_
      refine aN Tryz.results32 (λ w hw=>?_)
      have h2:=(hw.freeze .head).freeze .head
      simp only[pM,List.nil_append] at h2
      have h3:=h2.aU (H':=[(b,_)]) (F':=[(x35.1,aG xs),(x40.1,cZ ys)]) (O':=[_,_])
      exact⟨⟨x50.1,x50.2,pc,cc,x35.1,x35.2,x40.1,x40.2⟩,rfl,trivial,by simpa[mO,aO,mW,jY,aK.fr,fZ,nN,Nd.cells, *] using h3⟩
end

/- Nodes of the program's arena are read; lists are cloned; the state is read. -/
end Go.Proofs.YtadnboagdhcedaaGreatDoor
namespace Go.Ct
section
theorem Cl.X1{w:Go.World}{cs:List Go.Value}(h:Cl w none cs):cs=[]:=by
 cases cs with
 | nil=>rfl
 | cons v r=>exact absurd (h.ptr (by simp)) (by simp)
theorem Sf{l:List Int}(h:aG l=[]):l=[]:=by simpa[aG] using h
end
end Go.Ct
namespace Go.Proofs.YtadnboagdhcedaaGreatDoor
section
open Go.RowKit Go.Ct
variable{w:World}{D:List Nat}{b:Nat}{L:List aK}{cs:List Int}{gen acc:Int}{pn pc:Option Addr}{cn cc:Nat}{A:Fr}
theorem Mh{l:List Int}{a:Option Addr}{c:Nat}{w:World}(ha:Cl w a (aG l))(hl:l.length<=274877906944):Calls Tryz.prog 97 #[.slice a l.length c] w λ e w' =>
  ∃x:Option Addr×Nat,e=.returned (.slice x.1 l.length x.2)/\True/\SF w [] [] [] [] [⟨x.1,aG l,x.2,62,1⟩] w':=by
 refine enter Tryz.func97 Tryz.ntmps97 rfl rfl (SF.s1 ha) ?_
 simp only[cR]
 refine Ka7 ?_;refine rR ?_
 refine aZ (λ c4=>?_) (λ c4=>?_)
 ·have e0:a=none:=by cases a with|none=>rfl|some _=>cases c4
  subst e0
  obtain rfl:=Sf ha.X1
  refine cN ?_
  refine aN Tryz.results97 (λ w hw=>?_)
  exact⟨(none,0),rfl,trivial,(hw.lI 62 1).aU⟩
 ·refine bA ?_;refine J0 ?_;refine gE (λ x5=>?_);refine aB ?_;(refine eC (λ x7=>?_);try (refine eX (λ h7=>?_)));refine J1 ?_
  refine aN Tryz.results97 (λ w hw=>?_)
  exact⟨x7,by simp only[Nat.zero_add];rfl,trivial,by simpa using hw.aU (F':=[]) (H':=[])⟩
end

/- The arena's state is read. -/
section
open Go.RowKit Go.Ct
variable{w:World}{D:List Nat}{b:Nat}{L:List aK}{cs:List Int}{gen acc:Int}{pn pc:Option Addr}{cn cc:Nat}{A:Fr}
end

/- Lists and the smallest functions of nodes. -/
section
open Go.RowKit Go.Ct
theorem te(n:Nd)(w:World):Calls Tryz.prog 158 #[n.v] w λ e w'=>e=.returned n.own.v/\St w [] [] w':=by
 refine enter Tryz.func158 Tryz.ntmps158 rfl rfl (SF.s0 w) ?_
 simp only[cR]
 refine J0 ?_;refine bP (λ x1=>?_);refine aP (λ x2=>?_);refine aI ?_;refine gN ?_;refine bD ?_;refine aP (λ x3=>?_);refine J5 ?_;refine yU ?_;refine Kc2 ?_;refine Cc ?_;refine Cc ?_;refine Cc ?_;refine Cc ?_;refine Cc ?_;refine Cc ?_;refine Cc ?_;refine aS ?_;refine aS ?_;refine iT ?_
 refine aZ (λ c9=>?_) (λ c9=>?_)
 ·refine bG rfl ?_;refine aS ?_;refine eD [(0,[]),(1,[]),(2,[]),(3,[]),(4,[]),(5,[3]),(6,[]),(7,[])] ?_;refine lR ?_;refine lR ?_;refine aQ ?_;refine Ov ?_;refine Ei ?_;refine bG rfl ?_;refine Kb1 ?_
  refine bJ Tryz.results158 (λ w hw=>?_)
  exact⟨by simp only[Nd.own,beq_iff_eq, *,if_true,if_false];rfl,hw.done⟩
 ·refine jD ?_;refine iT ?_
  refine aZ (λ c11=>?_) (λ c11=>?_)
  ·refine bG rfl ?_;refine aS ?_;refine eD [(0,[]),(1,[]),(2,[]),(3,[]),(4,[]),(5,[]),(6,[]),(7,[3,5]),(8,[]),(9,[5]),(10,[]),(11,[])] ?_;refine lR ?_;refine lR ?_;refine lR ?_;refine aQ ?_;refine Ov ?_;refine Ov ?_;refine Ei ?_;refine bG rfl ?_;refine Kb1 ?_
   refine bJ Tryz.results158 (λ w hw=>?_)
   exact⟨by simp only[Nd.own,beq_iff_eq, *,if_true,if_false];rfl,hw.done⟩
  ·refine jD ?_;refine iT ?_
   refine aZ (λ c13=>?_) (λ c13=>?_)
   ·refine bG rfl ?_;refine dO ?_;refine J3 ?_;refine wN ?_;refine eV ?_;refine aS ?_;refine eD [(0,[]),(1,[]),(2,[]),(3,[]),(4,[]),(5,[]),(6,[]),(7,[3,5]),(8,[]),(9,[5]),(10,[]),(11,[])] ?_;refine lR ?_;refine lR ?_;refine lR ?_;refine aQ ?_;refine Ov ?_;refine Ov ?_;refine Ei ?_;refine bG rfl ?_;refine Kb1 ?_
    refine bJ Tryz.results158 (λ w hw=>?_)
    exact⟨by simp only[Nd.own,beq_iff_eq, *,if_true,if_false];rfl,hw.done⟩
   ·refine jD ?_;refine iT ?_
    refine aZ (λ c15=>?_) (λ c15=>?_)
    ·refine bG rfl ?_;refine aS ?_;refine eD [(0,[]),(1,[]),(2,[]),(3,[]),(4,[]),(5,[]),(6,[]),(7,[3,5]),(8,[]),(9,[5]),(10,[]),(11,[])] ?_;refine lR ?_;refine lR ?_;refine lR ?_;refine aQ ?_;refine Ov ?_;refine Ov ?_;refine Ei ?_;refine bG rfl ?_;refine Kb1 ?_
     refine bJ Tryz.results158 (λ w hw=>?_)
     exact⟨by simp only[Nd.own,beq_iff_eq, *,if_true,if_false];rfl,hw.done⟩
    ·refine jD ?_;refine iT ?_
     refine aZ (λ c17=>?_) (λ c17=>?_)
     ·refine bG rfl ?_;refine aS ?_;refine eD [(0,[]),(1,[]),(2,[]),(3,[]),(4,[]),(5,[]),(6,[]),(7,[3,5]),(8,[]),(9,[5]),(10,[]),(11,[])] ?_;refine lR ?_;refine lR ?_;refine lR ?_;refine aQ ?_;refine Ov ?_;refine Ov ?_;refine Ei ?_;refine bG rfl ?_;refine Kb1 ?_
      refine bJ Tryz.results158 (λ w hw=>?_)
      exact⟨by simp only[Nd.own,beq_iff_eq, *,if_true,if_false];rfl,hw.done⟩
     ·refine jD ?_;refine iT ?_
      refine aZ (λ c19=>?_) (λ c19=>?_)
      ·refine bG rfl ?_;refine eD [(0,[]),(1,[]),(2,[]),(3,[]),(4,[]),(5,[]),(6,[]),(7,[3,5]),(8,[]),(9,[5]),(10,[]),(11,[])] ?_;refine lR ?_;refine lR ?_;refine lR ?_;refine aQ ?_;refine Ov ?_;refine Ov ?_;refine Ei ?_;refine eV ?_;refine gN ?_;refine wN ?_;refine bG rfl ?_;refine Kb1 ?_
       refine bJ Tryz.results158 (λ w hw=>?_)
       exact⟨by simp only[Nd.own,beq_iff_eq, *,if_true,if_false];rfl,hw.done⟩
      ·refine bA ?_;refine iT ?_
       refine aZ (λ c21=>?_) (λ c21=>?_)
       ·refine bG rfl ?_;refine gN ?_;refine wN ?_;refine bG rfl ?_;refine Kb1 ?_
        refine bJ Tryz.results158 (λ w hw=>?_)
        exact⟨by simp only[Nd.own,beq_iff_eq, *,if_true,if_false];rfl,hw.done⟩
       ·refine bA ?_;refine bG rfl ?_;refine Kb1 ?_
        refine bJ Tryz.results158 (λ w hw=>?_)
        exact⟨by simp only[Nd.own,beq_iff_eq, *,if_true,if_false];rfl,hw.done⟩
end

/- node.Valid. -/
section
open Go.RowKit Go.Ct
theorem sd(b:Int)(w:World):Calls Tryz.prog 100 #[.int .u64 b] w λ e w'=>e=.returned (.int .i64 (vE b))/\St w [] [] w':=by
 refine enter Tryz.func100 Tryz.ntmps100 rfl rfl (SF.s0 w) ?_
 simp only[cR]
 refine cN ?_;refine J2 ?_;refine Aw ?_;refine wI ?_;refine aB ?_;refine wI ?_;refine Bp ?_;refine Ka4 ?_;refine Aw ?_;refine wI ?_;refine aB ?_;refine wI ?_;refine Bp ?_;refine Ka4 ?_;refine Aw ?_;refine aB ?_;refine Bp ?_;refine wI ?_;refine tZ ?_;refine Aw ?_;refine Bp ?_;refine tZ ?_;refine Aw ?_;refine Bp ?_;refine tZ ?_;refine Aw ?_;refine Bp ?_;refine Ka4 ?_;refine lJ ?_;refine wI ?_;refine J1 ?_
 refine aN Tryz.results100 (λ w hw=>?_)
 exact⟨rfl,hw.done⟩
theorem O3(b:Int)(w:World):Calls Tryz.prog 73 #[.int .u64 b] w λ e w'=>e=.returned (.int .i64 (vE b))/\St w [] [] w':=by
 refine enter Tryz.func73 Tryz.ntmps73 rfl rfl (SF.s0 w) ?_
 simp only[cR]
 refine cN ?_;refine J2 ?_;refine aR (cV (hc:=λ w1 hw=>sd b w1)) (λ x4=>?_);refine J1 ?_
 refine aN Tryz.results73 (λ w hw=>?_)
 exact⟨rfl,hw.done⟩
theorem Tk{n:Nd}{xs:List Int}{ys:List Pr}{w:World}(hr:pT w n xs ys) :
  Calls Tryz.prog 131 #[n.v] w λ e w'=>∃r:Bool,e=.returned (.bool r)/\(r=true↔bY n xs ys)/\St w [] [] w':=by
 have e1:=hr.brN;have e2:=hr.prN
 refine enter Tryz.func131 Tryz.ntmps131 rfl rfl (SF.s0 w) ?_
 simp only[cR]
 refine J0 ?_;refine bP (λ x1=>?_);refine gK ?_;refine aS ?_;refine eD [(0,[]),(1,[]),(2,[0]),(3,[]),(4,[])] ?_;refine bN ?_;refine bN ?_;refine dG (i:=2) (hq:=(cV (hc:=λ w1 hw=>te n w1))) (h:=λ x5=>?_);refine bS (i:=3) (hq:=(c0 (V:=.bool) (hc:=λ w1 hw=>qk (hr.eW hw.st) (hr.eW hw.st).own))) (h:=λ x6 h6=>?_);refine Ro ?_;refine dV ?_
 refine aZ (λ c7=>?_) (λ c7=>?_)
 ·refine cN ?_
  refine aN Tryz.results131 (λ w hw=>?_)
  refine⟨_,rfl,?_,hw.done⟩
  (simp_all[bY];done)
 ·refine jD ?_;refine gN ?_;refine Gq ?_
  (refine eR 11 (λ g11=>?_) (λ g11=>?_)<;>refine Ka0 ?_)
  all_goals (refine s4 ?_;refine aB ?_)
  all_goals (first|refine aH ?_|(refine eR 16 (λ g16=>?_) (λ g16=>?_)<;>refine Ka0 ?_))
  all_goals (refine s4 ?_;refine aI ?_)
  all_goals
  refine aZ (λ c20=>?_) (λ c20=>?_)
  ·all_goals refine cN ?_
   all_goals
    refine aN Tryz.results131 (λ w hw=>?_)
    refine⟨_,rfl,?_,hw.done⟩
    (simp_all[bY];omega)
  ·try exact nv c20
   all_goals (refine jD ?_;refine gN ?_;refine Kc2 ?_;refine Cc ?_;refine Cc ?_;refine Cc ?_;refine Cc ?_;refine bV ?_;refine Cc ?_;refine Cc ?_;refine Cc ?_;refine aS ?_;refine aS ?_;refine iT ?_)
   all_goals
    refine aZ (λ c23=>?_) (λ c23=>?_)
    ·refine bG rfl ?_;refine aS ?_;refine cN ?_
     refine aN Tryz.results131 (λ w hw=>?_)
     refine⟨_,rfl,?_,hw.done⟩
     (simp_all[bY];done)
    ·refine jD ?_;refine iT ?_
     refine aZ (λ c25=>?_) (λ c25=>?_)
     ·refine bG rfl ?_;refine yU ?_;refine lU ?_;refine J1 ?_
      refine aN Tryz.results131 (λ w hw=>?_)
      refine⟨_,rfl,?_,hw.done⟩
      (simp_all[bY];done)
     ·refine jD ?_;refine iT ?_
      refine aZ (λ c27=>?_) (λ c27=>?_)
      ·refine bG rfl ?_;refine aS ?_;refine aS ?_;refine eD [(0,[]),(1,[]),(2,[]),(3,[]),(4,[]),(5,[1]),(6,[]),(7,[]),(8,[]),(9,[]),(10,[]),(11,[]),(12,[])] ?_;refine lR ?_;refine oI ?_;refine lR ?_;refine dG (i:=5) (hq:=(cV (hc:=λ w1 hw=>O3 n.bm w1))) (h:=λ x47=>?_);refine tG ?_;refine aT ?_
       (refine ey 49 (λ g49=>?_) (λ g49=>?_)<;>(first|refine fL ?_|(refine aQ ?_)))
       all_goals ((first|refine fL ?_|(refine bN ?_));(first|refine fL ?_|(refine bS (i:=10) (hq:=(c0 (V:=.bool) (hc:=λ w1 hw=>by rw[e1];exact Nu (hr.br.eW hw.st) hr.brS))) (h:=λ x52 h52=>?_)));refine iZ ?_;refine J7 ?_)
       all_goals
       refine aN Tryz.results131 (λ w hw=>?_)
       refine⟨_,rfl,?_,hw.done⟩
       (simp_all[bY];done)
      ·refine jD ?_;refine iT ?_
       refine aZ (λ c29=>?_) (λ c29=>?_)
       ·refine Um ?_;refine yU ?_;refine jJ ?_;refine Ao ?_;refine J1 ?_
        refine aN Tryz.results131 (λ w hw=>?_)
        refine⟨_,rfl,?_,hw.done⟩
        (simp_all[bY];omega)
       ·refine jD ?_;refine iT ?_
        refine aZ (λ c31=>?_) (λ c31=>?_)
        ·refine bG rfl ?_;refine yU ?_;refine jJ ?_;refine Ao ?_;refine J1 ?_
         refine aN Tryz.results131 (λ w hw=>?_)
         refine⟨_,rfl,?_,hw.done⟩
         (simp_all[bY];omega)
        ·refine jD ?_;refine iT ?_
         refine aZ (λ c33=>?_) (λ c33=>?_)
         ·refine bG rfl ?_;refine yU ?_;refine dF ?_;refine lU ?_;refine aB ?_
          (refine eR 62 (λ g62=>?_) (λ g62=>?_)<;>refine Ka0 ?_)
          all_goals (refine Ka2 ?_;(first|refine aH ?_|(refine aF ?_;refine aC (c0 (V:=.bool) (hc:=λ w1 hw=>by rw[e2];exact Uc (hr.pr.eW hw.st) hr.prS)) (λ x65 h65=>?_)));refine cU ?_;refine aB ?_)
          all_goals (first|refine aH ?_|(refine eR 67 (λ g67=>?_) (λ g67=>?_)<;>refine Ka0 ?_))
          all_goals (refine Ka2 ?_;(first|refine aH ?_|(refine aF ?_;refine aC (c0 (V:=.bool) (hc:=λ w1 hw=>by rw[e2];exact K1 (hr.pr.eW hw.st) hr.prS)) (λ x70 h70=>?_)));refine Kc7 ?_)
          all_goals
          refine aN Tryz.results131 (λ w hw=>?_)
          refine⟨_,rfl,?_,hw.done⟩
          first|(simp_all[bY];done)|(simp_all[bY];omega)
         ·refine jD ?_;refine iT ?_
          refine aZ (λ c35=>?_) (λ c35=>?_)
          ·refine bG rfl ?_;refine gN ?_;refine Gq ?_
           (refine eR 75 (λ g75=>?_) (λ g75=>?_)<;>refine Ka0 ?_)
           all_goals (refine s4 ?_;refine aI ?_)
           all_goals
           refine aZ (λ c79=>?_) (λ c79=>?_)
           ·all_goals refine cN ?_
            all_goals
             refine aN Tryz.results131 (λ w hw=>?_)
             refine⟨_,rfl,?_,hw.done⟩
             (simp_all[bY];omega)
           ·try exact nv c79
            all_goals (refine lC ?_;refine yU ?_;refine lU ?_;refine J1 ?_)
            all_goals
             refine aN Tryz.results131 (λ w hw=>?_)
             refine⟨_,rfl,?_,hw.done⟩
             (simp_all[bY];done)
          ·refine bA ?_;refine iT ?_
           refine aZ (λ c37=>?_) (λ c37=>?_)
           ·refine bG rfl ?_;refine yU ?_;refine lU ?_;refine J1 ?_
            refine aN Tryz.results131 (λ w hw=>?_)
            refine⟨_,rfl,?_,hw.done⟩
            (simp_all[bY];done)
           ·refine bA ?_;refine bG rfl ?_;refine cN ?_
            refine aN Tryz.results131 (λ w hw=>?_)
            refine⟨_,rfl,?_,hw.done⟩
            (simp_all[bY];done)
end

end Go.Proofs.YtadnboagdhcedaaGreatDoor
