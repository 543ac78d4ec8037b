/- Nodes are made; lists are copied. -/
import Derived.Test.YtnilhhnfjfdokaaGreatDoorGLf
import Derived.Test.YtnilhhnfjfdokaaGreatDoorGMem
import Derived.Test.YtnilhhnfjfdokaaGreatDoorAuto

set_option linter.unusedSimpArgs false
set_option linter.unusedVariables false
namespace Go.Proofs.YtnilhhnfjfdokaaGreatDoor
section
open Go.RowKit Go.Ct
theorem Y0(g:Int)(w:World):Calls Tryz.prog 127 #[.int .i64 g] w λ e w'=>e=.returned ({Nd.zero with kind:=2,gen:=g}:Nd).v/\St w [] [] w':=by
 refine enter Tryz.func127 Tryz.ntmps127 rfl rfl (SF.s0 w) ?_
 simp only[cP]
 refine J0 ?_;refine aI (λ x2=>?_);refine Kb8 ?_;refine Na ?_
 refine bV Tryz.results127 (λ w hw=>?_)
 exact⟨rfl,hw.done⟩
theorem Ya(w:World):Calls Tryz.prog 86 #[] w λ e w'=>e=.returned ({Nd.zero with kind:=3}:Nd).v/\St w [] [] w':=by
 refine enter Tryz.func86 Tryz.ntmps86 rfl rfl (SF.s0 w) ?_
 simp only[cP]
 refine J0 ?_;refine aI (λ x0=>?_);refine Kb4 ?_;refine Na ?_
 refine bV Tryz.results86 (λ w hw=>?_)
 exact⟨rfl,hw.done⟩
theorem Jr(h:Int)(k:ByteArray)(v:Int)(w:World):Calls Tryz.prog 275 #[.int .u64 h,.string k,.int .u64 v] w λ e w'=>e=.returned ({Nd.zero with kind:=4,hash:=h,key:=k,val:=v}:Nd).v/\St w [] [] w':=by
 refine enter Tryz.func275 Tryz.ntmps275 rfl rfl (SF.s0 w) ?_
 simp only[cP]
 refine J0 ?_;refine aI (λ x6=>?_);refine aD ?_;refine mL ?_;refine aB ?_;refine Na ?_
 refine bV Tryz.results275 (λ w hw=>?_)
 exact⟨rfl,hw.done⟩
theorem Ub(o:Int)(w:World):Calls Tryz.prog 230 #[.int .i64 o] w λ e w'=>e=.returned ({Nd.zero with kind:=7,old:=o}:Nd).v/\St w [] [] w':=by
 refine enter Tryz.func230 Tryz.ntmps230 rfl rfl (SF.s0 w) ?_
 simp only[cP]
 refine J0 ?_;refine aI (λ x2=>?_);refine Kb8 ?_;refine Na ?_
 refine bV Tryz.results230 (λ w hw=>?_)
 exact⟨rfl,hw.done⟩
theorem SF.rv{w w':World}{F:Fr}{o:Ow}(h:SF w [] [] [] F [o] w'):SF w [] [] [] ((o.p,o.cs)::F) [] w':=h.freeze .head (by simp)
theorem SF.q5{w w':World}{F:Fr}{o o2:Ow}(h:SF w [] [] [] F [o,o2] w'):SF w [] [] [] ((o2.p,o2.cs)::(o.p,o.cs)::F) [] w':=(h.freeze .head (by simp)).freeze .head (by simp)
theorem Ly:sD Tryz.prog 165 24=true:=by kernel_rfl
theorem Q6:sD Tryz.prog 35 8=true:=by kernel_rfl
theorem Pc{l:List Pr}{a:Option Addr}{c:Nat}{w:World}(ha:Cl w a (gK l))(hl:l.length<=11728124029610):Calls Tryz.prog 273 #[.slice a l.length c] w λ e w' =>
  ∃p:Option Addr,e=.returned (.slice p l.length l.length)/\(l=[]->p=none)/\SF w [] [] [] [] [⟨p,gK l,l.length,165,2⟩] w':=by
 refine enter Tryz.func273 Tryz.ntmps273 rfl rfl (SF.s1 ha) ?_
 simp only[cP]
 refine Kb1 ?_;refine cO ?_;refine D0 ?_
 refine aU (λ c6=>?_) (λ c6=>?_)
 ·have hl0:l=[]:=List.eq_nil_of_length_eq_zero (by omega)
  subst hl0
  refine dW ?_
  refine bE Tryz.results273 (λ w hw=>?_)
  exact⟨none,rfl,λ _=>rfl,(hw.gU 165 2).fV⟩
 ·refine Kd3 ?_;refine cO ?_;refine aF (Rr rf rf ox Ly om om) (λ x9=>?_);refine Ni ?_;refine Rz (λ x12=>?_);refine Kb8 ?_;refine J1 ?_
  refine bE Tryz.results273 (λ w hw=>?_)
  exact⟨some ⟨x9,0,none⟩,rfl,λ h=>absurd (congrArg List.length h) (by simpa using c6),by simpa using hw.fV (H':=[]) (F':=[])⟩
theorem Qt{l:List Int}{a:Option Addr}{c:Nat}{w:World}(ha:Cl w a (aW l))(hl:l.length<=35184372088832):Calls Tryz.prog 272 #[.slice a l.length c] w λ e w' =>
  ∃p:Option Addr,e=.returned (.slice p l.length l.length)/\(l=[]->p=none)/\SF w [] [] [] [] [⟨p,aW l,l.length,35,1⟩] w':=by
 refine enter Tryz.func272 Tryz.ntmps272 rfl rfl (SF.s1 ha) ?_
 simp only[cP]
 refine Kb1 ?_;refine cO ?_;refine D0 ?_
 refine aU (λ c6=>?_) (λ c6=>?_)
 ·have hl0:l=[]:=List.eq_nil_of_length_eq_zero (by omega)
  subst hl0
  refine dW ?_
  refine bE Tryz.results272 (λ w hw=>?_)
  exact⟨none,rfl,λ _=>rfl,(hw.gU 35 1).fV⟩
 ·refine Kd3 ?_;refine cO ?_;refine aF (Rg rf rf ov Q6 om om) (λ x9=>?_);refine Ni ?_;refine Rz (λ x12=>?_);refine Kb8 ?_;refine J1 ?_
  refine bE Tryz.results272 (λ w hw=>?_)
  exact⟨some ⟨x9,0,none⟩,rfl,λ h=>absurd (congrArg List.length h) (by simpa using c6),by simpa using hw.fV (H':=[]) (F':=[])⟩
theorem Ny{n:Nd}{xs:List Int}{ys:List Pr}{w:World}(hr:Fv w n xs ys)(h1:xs.length<=35184372088832)(h2:ys.length<=11728124029610):Calls Tryz.prog 241 #[n.v] w λ e w' =>
  ∃p:Option Addr×Option Addr,e=.returned ({n with brA:=p.1,brC:=xs.length,prA:=p.2,gK:=ys.length}:Nd).v/\((xs=[]->p.1=none)/\(ys=[]->p.2=none))/\SF w [] [] [] [] [⟨p.2,gK ys,ys.length,165,2⟩,⟨p.1,aW xs,xs.length,35,1⟩] w':=by
 have e1:=hr.brN;have e2:=hr.prN
 refine enter Tryz.func241 Tryz.ntmps241 rfl rfl (SF.s2 hr.br hr.pr) ?_
 simp only[cP]
 simp only[Nd.v,Nd.cells]
 refine J0 ?_;refine bF (λ x1=>?_);refine aI (λ x2=>?_);refine aD ?_;refine jA ?_;refine aH (Ws (Hc:=λ _=>[]) (Fc:=λ _=>[]) (hc:=λ w1 hw=>by rw[e1];exact Qt (hw.cl fin) h1)) (λ x5 h5=>?_);refine Jm ?_;refine jA ?_;refine aH (Ws (Hc:=λ _=>[]) (Fc:=λ _=>[]) (hc:=λ w1 hw=>by rw[e2];exact Pc (hw.cl fin) h2)) (λ x9 h9=>?_);refine Jm ?_;refine Kd5 ?_
 refine bV Tryz.results241 (λ w hw=>?_)
 exact⟨(x5,x9),by rw[e1,e2];rfl,⟨h5,h9⟩,hw.fV⟩
theorem Yt{n:Nd}{xs:List Int}{ys:List Pr}{w:World}(hr:Fv w n xs ys)(h1:xs.length<=35184372088832)(h2:ys.length<=11728124029610):Calls Tryz.prog 241 #[n.v] w λ e w' =>
  ∃p:Option Addr×Option Addr,e=.returned ({n with brA:=p.1,brC:=xs.length,prA:=p.2,gK:=ys.length}:Nd).v/\((xs=[]->p.1=none)/\(ys=[]->p.2=none))/\SF w [] [] [] [(p.1,aW xs),(p.2,gK ys)] [] w':=(Ny hr h1 h2).mono λ _ _ ⟨p,he,hp,hs⟩=>⟨p,he,hp,SF.q5 hs⟩
end

/- Nodes of memories: New, Node, Alloc. -/
end Go.Proofs.YtnilhhnfjfdokaaGreatDoor
namespace Go.Ct
section
def sX:eY:=⟨{Nd.zero with kind:=1},[],[]⟩
def aZ(L:List eY)(r:Int):eY:=if 1<=r/\r<=L.length then L.getD (r-1).toNat eY.zero else eY.zero
theorem Ai{L:List eY}{r:Int}(h:¬(1<=r/\r<=L.length)):aZ L r=eY.zero:=if_neg h
theorem I9{L:List eY}{k:Nat}(h:k<L.length):aZ L ((k+1:Nat):Int)=L.getD k eY.zero:=by
 unfold aZ
 rw[if_pos (by omega),show(((k+1:Nat):Int)-1).toNat=k by omega]
def cN(L:List eY):List eY:=sX::sX::L
theorem lC(L:List eY):(cN L).length=L.length+2:=rfl
theorem G9:sX.Fit:=⟨rfl,rfl,by decide,by decide⟩
theorem Fits.all{L:List eY}(h:Fits L):Fits (cN L):=λ v hv=>by
 simp only[cN,List.mem_cons] at hv
 rcases hv with rfl|rfl|hv
 ·exact G9
 ·exact G9
 ·exact h v hv
theorem xI{L:List eY}(h:Fits L)(r:Int):(aZ L r).Fit:=by
 unfold aZ
 split
 ·rename_i hr
  exact h.at (by omega)
 ·exact U6
structure AX where
 pn:Option Addr
 cn:Nat
 pc:Option Addr
 cc:Nat
 b1:Option Addr
 c1:Nat
 b2:Option Addr
 c2:Nat
def mR(k:Int)(cs:List Int)(init:Int):List Int:=if k=2∨k=3∨k=5∨k=6∨k=8 then cs++[init] else cs
def pQ(n:Nd)(xs:List Int)(ys:List Pr)(c:Nat)(x:AX):eY :=
 eY.mk {n with main:=if n.kind=2 then((c+1:Nat):Int) else 0,prev:=if n.kind=3∨n.kind=5∨n.kind=6 then((c+1:Nat):Int) else 0,status:=if n.kind=8 then((c+1:Nat):Int) else 0,brA:=x.b1,brN:=xs.length,brC:=x.c1,prA:=x.b2,prN:=ys.length,gK:=x.c2} xs ys
theorem nC{k:Int}{cs:List Int}{init:Int}:cs.length<=(mR k cs init).length/\(mR k cs init).length<=cs.length+1:=by unfold mR;split<;>simp
theorem Us{n:Nd}{xs:List Int}{ys:List Pr}{c:Nat}{x:AX}(h1:xs.length<=35184372088832)(h2:ys.length<=11728124029610):(pQ n xs ys c x).Fit:=⟨rfl,rfl,h1,h2⟩
def eY.at_(v:eY)(p q:Option Addr):eY:=⟨{v.nd with brA:=p,brC:=v.xs.length,prA:=q,gK:=v.ys.length},v.xs,v.ys⟩
theorem eY.Sq{v:eY}(h:v.Fit)(p q:Option Addr):(v.at_ p q).Fit:=⟨h.brN,h.prN,h.brS,h.prS⟩
end
end Go.Ct
namespace Go.Proofs.YtnilhhnfjfdokaaGreatDoor
section
open Go.RowKit Go.Ct
variable{w:World}{D:List Nat}{b:Nat}{L:List eY}{cs:List Int}{gen acc:Int}{pn pc:Option Addr}{cn cc:Nat}{A:Fr}
end

/- Alloc of the two memories. -/
section
open Go.RowKit Go.Ct
variable{w:World}{D:List Nat}{b:Nat}{L:List eY}{cs:List Int}{gen acc:Int}{pn pc:Option Addr}{cn cc:Nat}{A:Fr}
theorem oF{m c:Nat}{p:Option Addr}{v1 v2 v3:Value}(hs:SF w D [(b,.cells ⟨[.slice p m c,v1,v2,v3]⟩ 96 (0,0))] A [] [] w)(hl:m<=274877906945):Calls Tryz.prog 341 #[.pointer (some ⟨b,0,none⟩)] w λ e w'=>∃q:Unit,e=.returned (.int .i64 ((m+2:Nat):Int))/\True /\
  SF w D [(b,.cells ⟨[.slice p m c,v1,v2,v3]⟩ 96 (0,0))] [] [] [] w':=by
 refine enter Tryz.func341 Tryz.ntmps341 rfl rfl hs ?_
 simp only[cP]
 refine dW ?_;refine oJ ?_;refine cO ?_;refine oA ?_;refine J1 ?_
 refine bE Tryz.results341 (λ w hw=>?_)
 exact⟨(),by rw[show(2:Int)+(m:Int)=((m+2:Nat):Int) by omega];rfl,trivial,hw.fV⟩
theorem Bi{n:Nd}{xs:List Int}{ys:List Pr}(init:Int)(hs:SF w D [(b,aO L cs gen acc pn cn pc cc)] [(n.brA,aW xs),(n.prA,gK ys)] [] (mW L cs pn cn pc cc) w)(e1:n.brN=xs.length)(e2:n.prN=ys.length)(h1:xs.length<=274877906944)(h2:ys.length<=274877906944)
  (hl:L.length<=274877906944) (hc:cs.length<=274877906944) :
  Calls Tryz.prog 335 #[.pointer (some ⟨b,0,none⟩),n.v,.int .i64 init] w λ e w'=>∃x:AX,e=.returned (.int .i64 ((L.length+3:Nat):Int))/\True /\
   SF w D [(b,aO (L++[pQ n xs ys cs.length x]) (mR n.kind cs init) gen acc x.pn x.cn x.pc x.cc)] [] (pQ n xs ys cs.length x).fr (mW (L++[pQ n xs ys cs.length x]) (mR n.kind cs init) x.pn x.cn x.pc x.cc) w':=by
 refine enter Tryz.func335 Tryz.ntmps335 rfl rfl (tG hs) ?_
 simp only[cP]
 simp only[Nd.v,Nd.cells]
 refine J0 ?_;refine bF (λ x4=>?_);refine J1 ?_;refine pV ?_;refine aH (cF (V:=λ p:Option Addr×Option Addr=>.agg ⟨[.int .i64 n.kind,.int .i64 n.gen,.int .i64 n.main,.int .u64 n.bm,.slice p.1 n.brN xs.length,.int .u64 n.hash,.string n.key,.int .u64 n.val,.slice p.2 n.prN ys.length,.int .i64 n.prev,.int .i64 n.old,.int .i64 n.exp,.int .i64 n.new,.int .i64 n.status]⟩) (hc:=λ w1 hw=>Yt (n:=n) ⟨e1,e2,hw.cl (.old .head),hw.cl (.old (.tail .head)),by omega,by omega⟩ (by omega) (by omega))) (λ x8 h8=>?_);refine J5 ?_;refine J0 ?_;refine aK ?_;refine mX (λ _=>?_);refine aK ?_;refine mX (λ _=>?_);refine Jm ?_;refine H3 ?_;refine jA ?_;refine K1 ?_
 refine aU (λ c12=>?_) (λ c12=>?_)
 ·try (exfalso;omega)
  refine Cw ?_;refine aH (cM (hc:=λ w hs=>oQ init hs hc)) (λ x18 h18=>?_);refine Jm ?_;refine dZ ?_;refine aJ ?_;refine eG [(0,[]),(1,[]),(2,[]),(3,[]),(4,[]),(5,[]),(6,[4]),(7,[]),(8,[]),(9,[]),(10,[])] ?_;refine Cy ?_;refine cB ?_;refine jG (h:=λ x41=>?_);((refine bZ (i:=7) (hq:=(aQ.cL (cQ (sz:=14) rf rf zG (by rw[mM]) fin rfl rfl ka rfl (by decide) dJ om) hP)) (h:=λ x42=>?_);try (refine eR (λ h42=>?_))));refine Gq ?_;refine J2 ?_;refine aH (cM (hc:=λ w hs=>oF (m:=L.length+1) hs (by omega))) (λ x46 h46=>?_);refine J1 ?_
  refine bE Tryz.results335 (λ w hw=>?_)
  have h3:=hw.fV (H':=[(b,_)]) (F':=[(x8.1,aW xs),(x8.2,gK ys)]) (O':=[_,_])
  exact⟨⟨x42.1,x42.2,x18.1,x18.2,x8.1,xs.length,x8.2,ys.length⟩,rfl,trivial,by simpa[mO,aO,mW,pQ,eY.fr,mR,vR,Nd.cells, *] using h3⟩
 ·try (exfalso;omega)
  refine pV ?_;refine aH (c0 (V:=.bool) (hc:=λ w1 hw=>Vu ({n with main:=0,prev:=0,status:=0,brA:=x8.1,brC:=xs.length,prA:=x8.2,gK:=ys.length}:Nd) w1)) (λ x22 h22=>?_);refine J1 ?_
  refine aU (λ c20=>?_) (λ c20=>?_)
  ·try (exfalso;omega)
   have k22:n.kind=3∨n.kind=5∨n.kind=6:=h22.1 c20
   rcases k22 with k22|k22|k22
   all_goals (refine Cw ?_;refine aH (cM (hc:=λ w hs=>oQ init hs hc)) (λ x25 h25=>?_);refine Jm ?_;refine dZ ?_;refine aJ ?_;refine eG [(0,[]),(1,[]),(2,[]),(3,[]),(4,[]),(5,[]),(6,[4]),(7,[]),(8,[]),(9,[]),(10,[])] ?_;refine Cy ?_;refine cB ?_;refine jG (h:=λ x41=>?_);((refine bZ (i:=7) (hq:=(aQ.cL (cQ (sz:=14) rf rf zG (by rw[mM]) fin rfl rfl ka rfl (by decide) dJ om) hP)) (h:=λ x42=>?_);try (refine eR (λ h42=>?_))));refine Gq ?_;refine J2 ?_;refine aH (cM (hc:=λ w hs=>oF (m:=L.length+1) hs (by omega))) (λ x46 h46=>?_);refine J1 ?_)
   all_goals
   refine bE Tryz.results335 (λ w hw=>?_)
   have h3:=hw.fV (H':=[(b,_)]) (F':=[(x8.1,aW xs),(x8.2,gK ys)]) (O':=[_,_])
   exact⟨⟨x42.1,x42.2,x25.1,x25.2,x8.1,xs.length,x8.2,ys.length⟩,rfl,trivial,by simpa[mO,aO,mW,pQ,eY.fr,mR,vR,Nd.cells, *] using h3⟩
  ·try (exfalso;omega)
   have k22:¬(n.kind=3∨n.kind=5∨n.kind=6):=λ k=>by rw[h22.2 k] at c20;cases c20
   obtain⟨k3,k56⟩:=not_or.1 k22
   obtain⟨k5,k6⟩:=not_or.1 k56
   refine jA ?_;refine K1 ?_
   refine aU (λ c27=>?_) (λ c27=>?_)
   ·try (exfalso;omega)
    refine Cw ?_;refine aH (cM (hc:=λ w hs=>oQ init hs hc)) (λ x33 h33=>?_);refine Jm ?_;refine dZ ?_;refine aJ ?_;refine eG [(0,[]),(1,[]),(2,[]),(3,[]),(4,[]),(5,[]),(6,[4]),(7,[]),(8,[]),(9,[]),(10,[])] ?_;refine Cy ?_;refine cB ?_;refine jG (h:=λ x41=>?_);((refine bZ (i:=7) (hq:=(aQ.cL (cQ (sz:=14) rf rf zG (by rw[mM]) fin rfl rfl ka rfl (by decide) dJ om) hP)) (h:=λ x42=>?_);try (refine eR (λ h42=>?_))));refine Gq ?_;refine J2 ?_;refine aH (cM (hc:=λ w hs=>oF (m:=L.length+1) hs (by omega))) (λ x46 h46=>?_);refine J1 ?_
    refine bE Tryz.results335 (λ w hw=>?_)
    have h3:=hw.fV (H':=[(b,_)]) (F':=[(x8.1,aW xs),(x8.2,gK ys)]) (O':=[_,_])
    exact⟨⟨x42.1,x42.2,x33.1,x33.2,x8.1,xs.length,x8.2,ys.length⟩,rfl,trivial,by simpa[mO,aO,mW,pQ,eY.fr,mR,vR,Nd.cells, *] using h3⟩
   ·try (exfalso;omega)
    refine oC ?_;refine aJ ?_;refine eG [(0,[]),(1,[]),(2,[]),(3,[]),(4,[]),(5,[]),(6,[4]),(7,[]),(8,[]),(9,[]),(10,[])] ?_;refine Cy ?_;refine cB ?_;refine jG (h:=λ x41=>?_);((refine bZ (i:=7) (hq:=(aQ.cL (cQ (sz:=14) rf rf zG (by rw[mM]) fin rfl rfl ka rfl (by decide) dJ om) hP)) (h:=λ x42=>?_);try (refine eR (λ h42=>?_))));refine Gq ?_;refine J2 ?_;refine aH (cM (hc:=λ w hs=>oF (m:=L.length+1) hs (by omega))) (λ x46 h46=>?_);refine J1 ?_
    refine bE Tryz.results335 (λ w hw=>?_)
    have h3:=hw.fV (H':=[(b,_)]) (F':=[(x8.1,aW xs),(x8.2,gK ys)]) (O':=[_,_])
    exact⟨⟨x42.1,x42.2,pc,cc,x8.1,xs.length,x8.2,ys.length⟩,rfl,trivial,by simpa[mO,aO,mW,pQ,eY.fr,mR,vR,Nd.cells, *] using h3⟩
end

/- Nodes of the program's arena are read; lists are cloned; the state is read. -/
end Go.Proofs.YtnilhhnfjfdokaaGreatDoor
namespace Go.Ct
section
theorem Cl.Bg{w:Go.World}{cs:List Go.Value}(h:Cl w none cs):cs=[]:=by
 cases cs with
 | nil=>rfl
 | cons v r=>exact absurd (h.ptr (by simp)) (by simp)
theorem Bd{L:List eY}{k:Nat}(h:k<2):aZ (cN L) ((k+1:Nat):Int)=sX:=by
 rw[I9 (by rw[lC];omega)]
 rcases(show k=0∨k=1 by omega) with rfl|rfl<;>rfl
theorem Dv{L:List eY}{k:Nat}(h:2<=k)(h2:k<L.length+2):aZ (cN L) ((k+1:Nat):Int)=L.getD (k+1-2-1) eY.zero:=by
 rw[I9 (by rw[lC];omega)]
 obtain⟨j,rfl⟩:∃j,k=j+2:=⟨k-2,by omega⟩
 rw[show j+2+1-2-1=j by omega]
 rfl
end
end Go.Ct
namespace Go.Proofs.YtnilhhnfjfdokaaGreatDoor
section
open Go.RowKit Go.Ct
variable{w:World}{D:List Nat}{b:Nat}{L:List eY}{cs:List Int}{gen acc:Int}{pn pc:Option Addr}{cn cc:Nat}{A:Fr}
theorem ie(w:World):Calls Tryz.prog 20 #[] w λ e w'=>∃q:Nat,e=.returned (.pointer (some ⟨q,0,none⟩))/\True /\
  SF w [] [(q,aO [] [] 0 0 none 0 none 0)] [] [] (mW [] [] none 0 none 0) w':=by
 refine enter Tryz.func20 Tryz.ntmps20 rfl rfl (SF.s0 w) ?_
 simp only[cP]
 refine dW ?_;refine J0 ?_;refine cK ?_;refine bF (λ x2=>?_);refine J1 ?_
 refine bE Tryz.results20 (λ w hw=>?_)
 exact⟨x2,rfl,trivial,((hw.gU 35 1).gU 192 14).fV⟩
theorem Tb(hs:SF w D [(b,aO L cs gen acc pn cn pc cc)] A [] (mW L cs pn cn pc cc) w)(r:Int)(hr:r<1)(hl:L.length<=274877906944) :
  Calls Tryz.prog 340 #[.pointer (some ⟨b,0,none⟩),.int .i64 r] w λ e w'=>∃q:Option Addr×Option Addr,e=.returned ((aZ (cN L) r).at_ q.1 q.2).nd.v/\True /\
  SF w D [(b,aO L cs gen acc pn cn pc cc)] [] [] (mW L cs pn cn pc cc++[⟨q.2,gK (aZ (cN L) r).ys,(aZ (cN L) r).ys.length,165,2⟩,⟨q.1,aW (aZ (cN L) r).xs,(aZ (cN L) r).xs.length,35,1⟩]) w':=by
 rw[Ai (by omega)]
 refine enter Tryz.func340 Tryz.ntmps340 rfl rfl (tG hs) ?_
 simp only[cP]
 refine J0 ?_;refine aI (λ x4=>?_);refine Kc8 ?_;refine Kb ?_
 (refine lN 7 (λ g7=>?_) (λ g7=>?_)<;>(try (exfalso;omega))<;>(refine aT ?_))
 (refine aT ?_);(refine aT ?_);refine kf ?_;refine aD ?_
 refine aU (λ c12=>?_) (λ c12=>?_)
 ·try (exfalso;omega)
  refine J0 ?_;refine Na ?_
  refine bV Tryz.results340 (λ w hw=>?_)
  exact⟨(none,none),rfl,trivial,(hw.fg 165 2 35 1).fV⟩
 ·exact nv c12
theorem Ut(hs:SF w D [(b,aO L cs gen acc pn cn pc cc)] (dV L) [] (mW L cs pn cn pc cc) w)(hf:Fits L){k:Nat}(hk:(k:Int)<9223372036854775807)(hl:L.length<=274877906944) :
  Calls Tryz.prog 340 #[.pointer (some ⟨b,0,none⟩),.int .i64 ((k+1:Nat):Int)] w λ e w'=>∃q:Option Addr×Option Addr,e=.returned ((aZ (cN L) ((k+1:Nat):Int)).at_ q.1 q.2).nd.v/\True /\
  SF w D [(b,aO L cs gen acc pn cn pc cc)] [] [] (mW L cs pn cn pc cc++[⟨q.2,gK (aZ (cN L) ((k+1:Nat):Int)).ys,(aZ (cN L) ((k+1:Nat):Int)).ys.length,165,2⟩,⟨q.1,aW (aZ (cN L) ((k+1:Nat):Int)).xs,(aZ (cN L) ((k+1:Nat):Int)).xs.length,35,1⟩]) w':=by
 refine enter Tryz.func340 Tryz.ntmps340 rfl rfl (tG hs) ?_
 simp only[cP]
 refine J0 ?_;refine aI (λ x4=>?_);refine Kc8 ?_;refine Kb ?_
 (refine Ka2 ?_)
 ((refine Ka2 ?_));((refine aE ?_;refine aH (cM (hc:=λ w hs=>oF (m:=L.length) hs (by omega))) (λ x10 h10=>?_)));refine kf ?_;refine aD ?_
 refine aU (λ c12=>?_) (λ c12=>?_)
 ·try (exfalso;omega)
  refine J0 ?_;refine Na ?_
  refine bV Tryz.results340 (λ w hw=>?_)
  exact⟨(none,none),by rw[Ai (by rw[lC];omega)];rfl,trivial,by rw[Ai (by rw[lC];omega)];exact(hw.fg 165 2 35 1).fV⟩
 ·try (exfalso;omega)
  refine lS ?_;refine J2 ?_;refine vI ?_;refine aD ?_
  refine aU (λ c15=>?_) (λ c15=>?_)
  ·try (exfalso;omega)
   refine J0 ?_;refine Na ?_
   refine bV Tryz.results340 (λ w hw=>?_)
   exact⟨(none,none),by rw[Bd (by omega)];rfl,trivial,by rw[Bd (by omega)];exact(hw.fg 165 2 35 1).fV⟩
  ·try (exfalso;omega)
   refine Vz ?_;refine aB ?_;refine aA (by exact jl (n:=2) rf rf (by omega) (by omega)) rfl ?_;refine aA (by exact S5 rf rf (by omega) (by omega)) rfl ?_;refine nf ?_;refine aH (Ws (Hc:=λ _=>[]) (Fc:=λ _=>[]) (V:=λ p:Option Addr×Option Addr=>((L.getD (k+1-2-1) eY.zero).at_ p.1 p.2).nd.v) (hc:=λ w1 hw=>Ny (hw.oa hf (by omega)) (hf.at (by omega)).brS (hf.at (by omega)).prS)) (λ x26 h26=>?_);refine J5 ?_
   refine bV Tryz.results340 (λ w hw=>?_)
   exact⟨x26,by rw[Dv (by omega) (by omega)];rfl,trivial,by rw[Dv (by omega) (by omega)];exact hw.toEnd.fV⟩
end

/- The arena's state is read. -/
section
open Go.RowKit Go.Ct
variable{w:World}{D:List Nat}{b:Nat}{L:List eY}{cs:List Int}{gen acc:Int}{pn pc:Option Addr}{cn cc:Nat}{A:Fr}
theorem Y7(hs:SF w D [(b,aO L cs gen acc pn cn pc cc)] (dV L) [] (mW L cs pn cn pc cc) w)(hf:Fits L)(r:Int)(hr:r<=9223372036854775807)(hl:L.length<=274877906944) :
  Calls Tryz.prog 340 #[.pointer (some ⟨b,0,none⟩),.int .i64 r] w λ e w'=>∃q:Option Addr×Option Addr,e=.returned (.agg ⟨((aZ (cN L) r).at_ q.1 q.2).nd.cells⟩)/\True /\
  SF w D [(b,aO L cs gen acc pn cn pc cc)] [] [] (mW L cs pn cn pc cc++[⟨q.2,gK (aZ (cN L) r).ys,(aZ (cN L) r).ys.length,165,2⟩,⟨q.1,aW (aZ (cN L) r).xs,(aZ (cN L) r).xs.length,35,1⟩]) w':=by
 rcases Int.lt_or_le r 1 with h|h
 ·exact Tb hs r h hl
 ·obtain⟨k,rfl⟩:∃k:Nat,r=((k+1:Nat):Int):=⟨(r-1).toNat,by omega⟩
  exact Ut hs hf (by omega) hl
end

/- Lists and the smallest functions of nodes. -/
section
open Go.RowKit Go.Ct
theorem kx(n:Nd)(w:World):Calls Tryz.prog 267 #[n.v] w λ e w'=>e=.returned n.own.v/\St w [] [] w':=by
 refine enter Tryz.func267 Tryz.ntmps267 rfl rfl (SF.s0 w) ?_
 simp only[cP]
 refine J0 ?_;refine bF (λ x1=>?_);refine aI (λ x2=>?_);refine aD ?_;refine jA ?_;refine cK ?_;refine aI (λ x3=>?_);refine J5 ?_;refine C3 ?_;refine Kb9 ?_;refine H3 ?_;refine H3 ?_;refine H3 ?_;refine H3 ?_;refine H3 ?_;refine H3 ?_;refine H3 ?_;refine aJ ?_;refine Kd0 ?_
 refine aU (λ c9=>?_) (λ c9=>?_)
 ·refine aX rfl ?_;refine aJ ?_;refine eG [(0,[]),(1,[]),(2,[]),(3,[]),(4,[]),(5,[3]),(6,[]),(7,[])] ?_;refine Kc4 ?_;refine bM ?_;refine Vb ?_;refine Jy ?_;refine aX rfl ?_;refine Kd5 ?_
  refine bV Tryz.results267 (λ w hw=>?_)
  exact⟨by simp only[Nd.own,beq_iff_eq, *,if_true,if_false];rfl,hw.done⟩
 ·refine lS ?_;refine jN ?_
  refine aU (λ c11=>?_) (λ c11=>?_)
  ·refine aX rfl ?_;refine aJ ?_;refine eG [(0,[]),(1,[]),(2,[]),(3,[]),(4,[]),(5,[]),(6,[]),(7,[3,5]),(8,[]),(9,[5]),(10,[]),(11,[])] ?_;refine Kc4 ?_;refine gY ?_;refine bM ?_;refine Vb ?_;refine Vb ?_;refine Jy ?_;refine aX rfl ?_;refine Kd5 ?_
   refine bV Tryz.results267 (λ w hw=>?_)
   exact⟨by simp only[Nd.own,beq_iff_eq, *,if_true,if_false];rfl,hw.done⟩
  ·refine lS ?_;refine jN ?_
   refine aU (λ c13=>?_) (λ c13=>?_)
   ·refine aX rfl ?_;refine dD ?_;refine J3 ?_;refine Jm ?_;refine dZ ?_;refine aJ ?_;refine eG [(0,[]),(1,[]),(2,[]),(3,[]),(4,[]),(5,[]),(6,[]),(7,[3,5]),(8,[]),(9,[5]),(10,[]),(11,[])] ?_;refine Kc4 ?_;refine gY ?_;refine bM ?_;refine Vb ?_;refine Vb ?_;refine Jy ?_;refine aX rfl ?_;refine Kd5 ?_
    refine bV Tryz.results267 (λ w hw=>?_)
    exact⟨by simp only[Nd.own,beq_iff_eq, *,if_true,if_false];rfl,hw.done⟩
   ·refine lS ?_;refine jN ?_
    refine aU (λ c15=>?_) (λ c15=>?_)
    ·refine aX rfl ?_;refine aJ ?_;refine eG [(0,[]),(1,[]),(2,[]),(3,[]),(4,[]),(5,[]),(6,[]),(7,[3,5]),(8,[]),(9,[5]),(10,[]),(11,[])] ?_;refine Kc4 ?_;refine gY ?_;refine bM ?_;refine Vb ?_;refine Vb ?_;refine Jy ?_;refine aX rfl ?_;refine Kd5 ?_
     refine bV Tryz.results267 (λ w hw=>?_)
     exact⟨by simp only[Nd.own,beq_iff_eq, *,if_true,if_false];rfl,hw.done⟩
    ·refine lS ?_;refine jN ?_
     refine aU (λ c17=>?_) (λ c17=>?_)
     ·refine aX rfl ?_;refine aJ ?_;refine eG [(0,[]),(1,[]),(2,[]),(3,[]),(4,[]),(5,[]),(6,[]),(7,[3,5]),(8,[]),(9,[5]),(10,[]),(11,[])] ?_;refine Kc4 ?_;refine gY ?_;refine bM ?_;refine Vb ?_;refine Vb ?_;refine Jy ?_;refine aX rfl ?_;refine Kd5 ?_
      refine bV Tryz.results267 (λ w hw=>?_)
      exact⟨by simp only[Nd.own,beq_iff_eq, *,if_true,if_false];rfl,hw.done⟩
     ·refine lS ?_;refine jN ?_
      refine aU (λ c19=>?_) (λ c19=>?_)
      ·refine aX rfl ?_;refine eG [(0,[]),(1,[]),(2,[]),(3,[]),(4,[]),(5,[]),(6,[]),(7,[3,5]),(8,[]),(9,[5]),(10,[]),(11,[])] ?_;refine Kc4 ?_;refine gY ?_;refine bM ?_;refine Vb ?_;refine Vb ?_;refine Jy ?_;refine dZ ?_;refine jA ?_;refine Jm ?_;refine aX rfl ?_;refine Kd5 ?_
       refine bV Tryz.results267 (λ w hw=>?_)
       exact⟨by simp only[Nd.own,beq_iff_eq, *,if_true,if_false];rfl,hw.done⟩
      ·refine bB ?_;refine jN ?_
       refine aU (λ c21=>?_) (λ c21=>?_)
       ·refine aX rfl ?_;refine jA ?_;refine Jm ?_;refine aX rfl ?_;refine Kd5 ?_
        refine bV Tryz.results267 (λ w hw=>?_)
        exact⟨by simp only[Nd.own,beq_iff_eq, *,if_true,if_false];rfl,hw.done⟩
       ·refine bB ?_;refine aX rfl ?_;refine Kd5 ?_
        refine bV Tryz.results267 (λ w hw=>?_)
        exact⟨by simp only[Nd.own,beq_iff_eq, *,if_true,if_false];rfl,hw.done⟩
end

end Go.Proofs.YtnilhhnfjfdokaaGreatDoor
