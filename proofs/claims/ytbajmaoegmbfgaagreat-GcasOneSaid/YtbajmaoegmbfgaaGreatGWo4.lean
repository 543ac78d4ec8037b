/- Merged. -/
import Derived.Test.YtbajmaoegmbfgaaGreatGTm2
import Derived.Test.YtbajmaoegmbfgaaGreatLf
import Derived.Test.YtbajmaoegmbfgaaGreatGEx18
import Derived.Test.YtbajmaoegmbfgaaGreatGBr2
import Derived.Test.YtbajmaoegmbfgaaGreatGAr9
import Derived.Test.YtbajmaoegmbfgaaGreatGBitsE
import Derived.Test.YtbajmaoegmbfgaaGreatGRn1
set_option linter.unusedSimpArgs false
set_option linter.unusedVariables false
namespace Go.Proofs.YtbajmaoegmbfgaaGreat
section
open Go Go.RowKit Go.Ct
theorem aAe{ts:List dU}{j:Nat}(h:j<ts.length):((rT ts).drop (2*j)).take 2=[.int .i64 (ts.getD j ⟨0,false⟩).root,.bool (ts.getD j ⟨0,false⟩).ro]:=by
 induction ts generalizing j with
 | nil=>simp at h
 | cons t ts ih =>
  cases j with
  | zero=>simp[rT]
  | succ j =>
   have:=ih (j:=j) (by simpa using h)
   rw[show 2*(j+1)=2*j+1+1 by omega]
   simpa[rT] using this
section
variable{P:Program}{S:List (Nat×Value)}{d:Nat}{ty t t' e:TypeId}{pos:String}{af:Array Edge}{gd:Option (Nat×Bool)}{x y:Operand}{w0 w:World}{M:List Nat}{H:List (Nat×Obj)}{A F:Fr}{O:List Ow}{a:Option Addr}
theorem G3{ts:List dU}{q:Nat}(hx:ev S x=.pointer (some ⟨cO a,eF a+2*q,none⟩))(ht:jR P t 2=true)(hf:pY A F O a (rT ts))(hq:q<ts.length) :
  aM P S (SF w0 M H A F O) ⟨some d,.load t x,ty,pos,af,gd⟩ (.agg ⟨[.int .i64 (ts.getD q ⟨0,false⟩).root,.bool (ts.getD q ⟨0,false⟩).ro]⟩):=Ot hx ht hf (aAe hq) rfl
end
structure Fv where
 key:ByteArray
 val:Int
 exp:Int
 I0:Int
 only:Bool
 t:dU
 pos:Nat
def Fv.cl(q:Fv)(kind mask:Int):Cl:=⟨kind,q.t,0,0,0,0,0,mask,q.key,q.val,q.exp,q.I0,q.only⟩
def wrK(kind:Int):Prop:=kind=8∨kind=9∨kind=12∨kind=4
structure N9(kind:Int)(ts:List dU)(q:Fv):Prop where
 ky:q.key∈lY
 mem:q.t∈ts
 ro:wrK kind->q.t.ro=false
theorem pR{v:Nat}(h:v<8):lY.getD v ⟨#[]⟩∈lY:=by
 have:v=0∨v=1∨v=2∨v=3∨v=4∨v=5∨v=6∨v=7:=by omega
 rcases this with rfl|rfl|rfl|rfl|rfl|rfl|rfl|rfl<;>simp[lY]
theorem Gu{ts:List dU}{j:Nat}(h:j<ts.length):ts.getD j ⟨0,false⟩∈ts:=by
 rw[iU,List.getElem?_eq_getElem h];exact List.getElem_mem h
section
variable{P:Program}{S:List (Nat×Value)}{G:World->Prop}{d:Nat}{ty t t':TypeId}{pos:String}{af:Array Edge}{gd:Option (Nat×Bool)}{x y:Operand}
theorem aAt{a b:Nat}(hx:ev S x=.int .i64 ((a:Nat):Int))(hy:ev S y=.int .i64 ((b:Nat):Int))(h0:b≠0):aM P S G ⟨some d,.binOp .rem t x y t',ty,pos,af,gd⟩ (.int .i64 ((a%b:Nat):Int)):=by
 have:=ey (P:=P) (G:=G) (d:=d) (ty:=ty) (pos:=pos) (af:=af) (gd:=gd) (t:=t) (t':=t') hx hy (by omega)
 rwa [Int.tmod_eq_emod_of_nonneg (by omega),<- Int.natCast_emod] at this
end
section
variable{bw bm tb:Nat}{D:List Nat}{A:Fr}{w:World}{mask:Int}{ts:List dU}{pt pe:Option Addr}{kt ke ne:Nat}{l:List Int}{a:Option Addr}{c p:Nat}
set_option maxRecDepth 100000 in
set_option maxHeartbeats 2000000 in
theorem qp(kind:Int)(hkd:7<=kind/\kind<=12)(hl:l.length<=17592186043904)(h0:0<ts.length)(hts:ts.length<=1000)(hr0:(ts.getD 0 ⟨0,false⟩).ro=false)
  (hs:SF w D [(tb,E3 a l c p),(bw,lB bm mask pt ts.length kt pe ne ke)] [(a,aH l)] [] [⟨pt,rT ts,kt,29,2⟩] w) :
  Calls Tryz.prog 54 #[.pointer (some ⟨bw,0,none⟩),.int .i64 kind,.pointer (some ⟨tb,0,none⟩)] w λ e w'=>∃q:Fv,e=.returned (.agg ⟨Rv (q.cl kind mask)⟩)/\N9 kind ts q /\
   SF w D [(tb,E3 a l c q.pos),(bw,lB bm mask pt ts.length kt pe ne ke)] [] [] [⟨pt,rT ts,kt,29,2⟩] w':=by
 refine enter Tryz.func54 Tryz.ntmps54 rfl rfl hs ?_
 simp only[cG]
 refine J0 ?_;refine aL (λ x6=>?_);refine Tq ?_
 refine eP [7,12,13,14,15,16,17,18,19,20,21,22,23,24,25,26,27,28,29,30] (λ y:Nat×Fv=>[(7,.pointer (some ⟨y.1,0,none⟩))]) (λ y=>y.2.key∈lY) (λ y=>[(y.1,.cells ⟨Rv (y.2.cl kind mask)⟩ 89 (0,0)),(x6,.cells ⟨Rv ⟨0,⟨0,false⟩,0,0,0,0,0,0,⟨#[]⟩,0,0,0,false⟩⟩ 89 (0,0)),(tb,E3 a l c y.2.pos),(bw,lB bm mask pt ts.length kt pe ne ke)]) (λ _=>[]) (λ _=>[⟨pt,rT ts,kt,29,2⟩]) (by decide) (λ _=>by exact rfl) ?_ (λ y f hx=>?_)
 ·refine gK (.one 0 [] (.one 1 [] (.one 2 [] (.one 3 [] (.one 4 [] (.one 5 [] (.one 7 [] (.one 10 [] (.one 13 [] (.one 15 [] (.two 6 [4] (.two 8 [4] (.one 9 [] (.two 11 [4] (.one 12 [] (.two 14 [4] (.two 16 [4] (.one 17 [] (.one 18 [] (.one 19 [4] (.one 20 [] .nil)))) 0 [] (.two 19 [4] (.one 16 [4] (.one 17 [] (.one 18 [] (.one 20 [] .nil)))) 0 [] .nil)) 0 [] (.two 19 [4] (.one 14 [4] (.one 16 [4] (.one 17 [] (.one 18 [] (.one 20 [] .nil))))) 0 [] .nil))) 0 [] (.two 19 [4] (.one 11 [4] (.one 12 [] (.one 14 [4] (.one 16 [4] (.one 17 [] (.one 18 [] (.one 20 [] .nil))))))) 0 [] .nil))) 0 [] (.two 19 [4] (.one 8 [4] (.one 9 [] (.one 11 [4] (.one 12 [] (.one 14 [4] (.one 16 [4] (.one 17 [] (.one 18 [] (.one 20 [] .nil))))))))) 0 [] .nil)) 0 [] (.two 19 [4] (.one 6 [4] (.one 8 [4] (.one 9 [] (.one 11 [4] (.one 12 [] (.one 14 [4] (.one 16 [4] (.one 17 [] (.one 18 [] (.one 20 [] .nil)))))))))) 0 [] .nil)))))))))))) ?_
  refine Zg ?_;refine iK ?_;refine iK ?_;refine aR ?_
  refine gV (E:=[6,19]) (by decide +kernel) ((.cons ?_ (.cons ?_ .nil)))
  ·refine mT (i:=6) (hq:=(vK (hc:=λ w1 hw=>vf (hw.tape cS fin hl)))) (h:=λ x18 h18=>?_)
   refine gV (E:=[8,19]) (by decide +kernel) ((.cons ?_ (.cons ?_ .nil)))
   ·refine mT (i:=8) (hq:=(vK (hc:=λ w1 hw=>eM 6 (hw.tape cS fin hl) (by decide) (by decide)))) (h:=λ x20 h20=>?_)
    refine nP ?_
    refine gV (E:=[11,19]) (by decide +kernel) ((.cons ?_ (.cons ?_ .nil)))
    ·refine mT (i:=11) (hq:=(vK (hc:=λ w1 hw=>eM 6 (hw.tape cS fin hl) (by decide) (by decide)))) (h:=λ x23 h23=>?_)
     refine nP ?_
     refine gV (E:=[14,19]) (by decide +kernel) ((.cons ?_ (.cons ?_ .nil)))
     ·refine mT (i:=14) (hq:=(vK (hc:=λ w1 hw=>eM 4 (hw.tape cS fin hl) (by decide) (by decide)))) (h:=λ x26 h26=>?_)
      refine gV (E:=[16,19]) (by decide +kernel) ((.cons ?_ (.cons ?_ .nil)))
      ·refine mT (i:=16) (hq:=(vK (hc:=λ w1 hw=>eM 3 (hw.tape cS fin hl) (by decide) (by decide)))) (h:=λ x28 h28=>?_)
       refine oJ ?_;refine jC ?_;refine gW (h:=λ x7=>?_);refine A7 ?_
       refine fH ((x7,⟨lY.getD x18 ⟨#[]⟩,((x20:Nat):Int),((x23:Nat):Int),((x26:Nat):Int),((x28:Nat):Int)==0,⟨0,false⟩,lA l (lA l (lA l (lA l (lA l p))))⟩)) ?_
       ·exact pR h18.1
      ·refine gY (i:=19) (h:=λ x7=>?_)
       refine bE (i:=16) (hq:=(vK (hc:=λ w1 hw=>eM 3 (hw.tape cS fin hl) (by decide) (by decide)))) (h:=λ x28 h28=>?_);refine oJ ?_;refine jC ?_;refine A7 ?_
       refine fH ((x7,⟨lY.getD x18 ⟨#[]⟩,((x20:Nat):Int),((x23:Nat):Int),((x26:Nat):Int),((x28:Nat):Int)==0,⟨0,false⟩,lA l (lA l (lA l (lA l (lA l p))))⟩)) ?_
       ·exact pR h18.1
     ·refine gY (i:=19) (h:=λ x7=>?_)
      refine bE (i:=14) (hq:=(vK (hc:=λ w1 hw=>eM 4 (hw.tape cS fin hl) (by decide) (by decide)))) (h:=λ x26 h26=>?_);refine bE (i:=16) (hq:=(vK (hc:=λ w1 hw=>eM 3 (hw.tape cS fin hl) (by decide) (by decide)))) (h:=λ x28 h28=>?_);refine oJ ?_;refine jC ?_;refine A7 ?_
      refine fH ((x7,⟨lY.getD x18 ⟨#[]⟩,((x20:Nat):Int),((x23:Nat):Int),((x26:Nat):Int),((x28:Nat):Int)==0,⟨0,false⟩,lA l (lA l (lA l (lA l (lA l p))))⟩)) ?_
      ·exact pR h18.1
    ·refine gY (i:=19) (h:=λ x7=>?_)
     refine bE (i:=11) (hq:=(vK (hc:=λ w1 hw=>eM 6 (hw.tape cS fin hl) (by decide) (by decide)))) (h:=λ x23 h23=>?_);refine nP ?_;refine bE (i:=14) (hq:=(vK (hc:=λ w1 hw=>eM 4 (hw.tape cS fin hl) (by decide) (by decide)))) (h:=λ x26 h26=>?_);refine bE (i:=16) (hq:=(vK (hc:=λ w1 hw=>eM 3 (hw.tape cS fin hl) (by decide) (by decide)))) (h:=λ x28 h28=>?_);refine oJ ?_;refine jC ?_;refine A7 ?_
     refine fH ((x7,⟨lY.getD x18 ⟨#[]⟩,((x20:Nat):Int),((x23:Nat):Int),((x26:Nat):Int),((x28:Nat):Int)==0,⟨0,false⟩,lA l (lA l (lA l (lA l (lA l p))))⟩)) ?_
     ·exact pR h18.1
   ·refine gY (i:=19) (h:=λ x7=>?_)
    refine bE (i:=8) (hq:=(vK (hc:=λ w1 hw=>eM 6 (hw.tape cS fin hl) (by decide) (by decide)))) (h:=λ x20 h20=>?_);refine nP ?_;refine bE (i:=11) (hq:=(vK (hc:=λ w1 hw=>eM 6 (hw.tape cS fin hl) (by decide) (by decide)))) (h:=λ x23 h23=>?_);refine nP ?_;refine bE (i:=14) (hq:=(vK (hc:=λ w1 hw=>eM 4 (hw.tape cS fin hl) (by decide) (by decide)))) (h:=λ x26 h26=>?_);refine bE (i:=16) (hq:=(vK (hc:=λ w1 hw=>eM 3 (hw.tape cS fin hl) (by decide) (by decide)))) (h:=λ x28 h28=>?_);refine oJ ?_;refine jC ?_;refine A7 ?_
    refine fH ((x7,⟨lY.getD x18 ⟨#[]⟩,((x20:Nat):Int),((x23:Nat):Int),((x26:Nat):Int),((x28:Nat):Int)==0,⟨0,false⟩,lA l (lA l (lA l (lA l (lA l p))))⟩)) ?_
    ·exact pR h18.1
  ·refine gY (i:=19) (h:=λ x7=>?_)
   refine bE (i:=6) (hq:=(vK (hc:=λ w1 hw=>vf (hw.tape cS fin hl)))) (h:=λ x18 h18=>?_);refine bE (i:=8) (hq:=(vK (hc:=λ w1 hw=>eM 6 (hw.tape cS fin hl) (by decide) (by decide)))) (h:=λ x20 h20=>?_);refine nP ?_;refine bE (i:=11) (hq:=(vK (hc:=λ w1 hw=>eM 6 (hw.tape cS fin hl) (by decide) (by decide)))) (h:=λ x23 h23=>?_);refine nP ?_;refine bE (i:=14) (hq:=(vK (hc:=λ w1 hw=>eM 4 (hw.tape cS fin hl) (by decide) (by decide)))) (h:=λ x26 h26=>?_);refine bE (i:=16) (hq:=(vK (hc:=λ w1 hw=>eM 3 (hw.tape cS fin hl) (by decide) (by decide)))) (h:=λ x28 h28=>?_);refine oJ ?_;refine jC ?_;refine A7 ?_
   refine fH ((x7,⟨lY.getD x18 ⟨#[]⟩,((x20:Nat):Int),((x23:Nat):Int),((x26:Nat):Int),((x28:Nat):Int)==0,⟨0,false⟩,lA l (lA l (lA l (lA l (lA l p))))⟩)) ?_
   ·exact pR h18.1
 dsimp only[iC,List.map,List.cons_append,List.nil_append]
 have hy:=hx
 refine J2 ?_;refine lF ?_;refine aB ?_
 (refine eI 33 (λ g33=>?_) (λ g33=>?_)<;>(try (exfalso;omega))<;>((refine Ka3 ?_)))
 ((refine aF ?_;refine lF ?_));refine cA ?_;refine Ka4 ?_;refine lF ?_;refine aB ?_
 (refine eI 39 (λ g39=>?_) (λ g39=>?_)<;>refine Ka0 ?_)
 all_goals ((first|refine aJ ?_|(refine aF ?_;refine lF ?_));refine Ka6 ?_)
 all_goals (first|refine aJ ?_|(refine eI 43 (λ g43=>?_) (λ g43=>?_)<;>refine Ka0 ?_))
 all_goals ((first|refine aJ ?_|(refine aF ?_;refine lF ?_));refine Ka6 ?_)
 all_goals (first|refine aJ ?_|(refine eI 47 (λ g47=>?_) (λ g47=>?_)<;>refine Ka0 ?_))
 all_goals ((first|refine aJ ?_|(refine aF ?_;refine lF ?_));refine cA ?_;refine zZ ?_;refine dI ?_;refine Rr ?_;refine aE (vK (hc:=λ w1 hw=>eM ts.length (hw.tape cS fin hl) (by omega) (by omega))) (λ x57 h57=>?_);refine iT ?_;refine D8 ?_)
 all_goals
 refine nT [11,58,59,60,61,62,63,64,65,66,67,68,69,70,71,72,73,74,75,76,77,78,79,80,81,82,83,84,85,86,87,88,89,90,91,92,93,94,95,96,97,98,99,100] (λ z:Nat×dU=>[(11,.int .i64 ((z.1:Nat):Int))]) (λ z=>z.1<=ts.length) (λ z=>[(y.1,.cells ⟨Rv (({y.2 with t:=z.2}:Fv).cl kind mask)⟩ 89 (0,0)),(x6,.cells ⟨Rv ⟨0,⟨0,false⟩,0,0,0,0,0,0,⟨#[]⟩,0,0,0,false⟩⟩ 89 (0,0)),(tb,E3 a l c (lA l y.2.pos)),(bw,lB bm mask pt ts.length kt pe ne ke)]) (λ _=>_) (λ _=>_) (λ z=>ts.length-z.1) ((0,y.2.t)) (Nat.zero_le _) (λ z f hx=>?_)
 dsimp only[iC,List.map,List.cons_append,List.nil_append]
 all_goals (refine C4 ?_;refine dI ?_;refine Rr ?_;refine Bi ?_)
 all_goals
  refine bC (λ c64=>?_) (λ c64=>?_)
  ·all_goals try (exfalso;omega)
   all_goals (refine rY ?_;refine aV ?_;refine gZ [0,1,2,3,4,5,6,7,8,9,10,11,12,13,14,15,16] ?_;refine Zx ?_;refine iK ?_;refine cK (i:=6) (hq:=(pA (m:=x57) (n:=z.1) rf rf (by omega))) (h:=?_);refine Zx ?_;refine oE ?_;refine cK (i:=12) (hq:=(aAt (a:=x57+z.1) (b:=ts.length) rf rf (by omega))) (h:=?_);refine bU (i:=13) (hq:=(N7 (cs:=rT ts) (k:=(x57+z.1)%ts.length) rf rf fZ eT fin (Nat.mod_lt _ h0) (by rw[lQ];have:=Nat.mod_lt (x57+z.1) h0;omega))) (h:=?_);refine bU (i:=14) (hq:=(G3 (ts:=ts) (q:=(x57+z.1)%ts.length) rf eT fin (Nat.mod_lt _ h0))) (h:=?_);refine aW ?_;refine kW (i:=16) (hq:=(jG λ _=>lV (off:=1) (vs:=[.int .i64 (ts.getD ((x57+z.1)%ts.length) ⟨0,false⟩).root,.bool (ts.getD ((x57+z.1)%ts.length) ⟨0,false⟩).ro]) rf cS rf rfl eT (Nat.le_of_ble_eq_true rfl) rf lE)) (h:=λ _=>?_);refine eL ?_;refine Kc5 ?_;refine J3 ?_;refine aB ?_)
   all_goals ((refine eI 86 (λ g86=>?_) (λ g86=>?_)<;>refine Ka0 ?_))
   all_goals ((first|refine aJ ?_|(refine aF ?_;refine yO ?_));refine Ka6 ?_)
   all_goals (first|(refine aF ?_;refine aG ?_)|(refine eI 90 (λ g90=>?_) (λ g90=>?_)<;>(try (exfalso;omega))<;>(refine aJ ?_)))
   all_goals (refine Ka1 ?_;refine Ka2 ?_;(first|refine aJ ?_|(refine aF ?_;refine yO ?_));refine Ka0 ?_)
   all_goals (first|refine Bd ?_|(refine eI 95 (λ g95=>?_) (λ g95=>?_)<;>refine Ka0 ?_))
   all_goals ((first|refine aJ ?_|refine Bd ?_|(refine aF ?_;refine yO ?_));(first|refine aJ ?_|(refine aF ?_;refine cA ?_));refine cA ?_;refine aI ?_)
   all_goals
   refine bC (λ c99=>?_) (λ c99=>?_)
   ·try exact nv c99
    all_goals (refine oR ?_;refine J5 ?_)
    all_goals
     refine bD Tryz.results54 (λ w hw=>?_)
     exact⟨{y.2 with t:=ts.getD ((x57+z.1)%ts.length) ⟨0,false⟩,pos:=lA l y.2.pos},rfl,⟨hy,Gu (Nat.mod_lt _ h0),λ hk=>by first|(simp_all;done)|(unfold wrK at hk;exfalso;omega)⟩,hw.aY⟩
   ·try exact nv c99
    all_goals try (exfalso;omega)
    all_goals (refine Kc1 ?_)
    all_goals
     refine iO ((z.1+1,ts.getD ((x57+z.1)%ts.length) ⟨0,false⟩)) ?_
     ·omega
  ·all_goals try (exfalso;omega)
   all_goals (refine bT rfl ?_;refine mK ?_;refine aD (N7 (cs:=rT ts) (k:=0) rf rf fZ eT fin h0 (by rw[lQ];omega)) rfl ?_;refine aD (G3 (ts:=ts) (q:=0) rf eT fin h0) rfl ?_;refine aG ?_;refine cR (jG λ _=>lV (off:=1) (vs:=[.int .i64 (ts.getD 0 ⟨0,false⟩).root,.bool (ts.getD 0 ⟨0,false⟩).ro]) rf cS rf rfl eT (Nat.le_of_ble_eq_true rfl) rf lE) (λ _=>?_);refine aI ?_;refine oR ?_;refine J5 ?_)
   all_goals
   refine bD Tryz.results54 (λ w hw=>?_)
   exact⟨{y.2 with t:=ts.getD 0 ⟨0,false⟩,pos:=lA l y.2.pos},rfl,⟨hy,Gu h0,λ _=>hr0⟩,hw.aY⟩
end
end
section
open Go.Ct
inductive CT where
 | no
 | main (i:Int)
 | prev (m:Int)
 | stat (d:Int)
 | root
 | rort
structure Kw where
 mm:Mm
 way:Int->List Nat
 gb:Int->Int
 ct:Int->CT
abbrev Kw.nd(σ:Kw)(r:Int):Nv:=bA σ.mm.nodes r
abbrev Kw.ce(σ:Kw)(c:Int):Int:=aS σ.mm.cs c
abbrev Kw.len(σ:Kw):Nat:=σ.mm.nodes.length
abbrev Kw.cl(σ:Kw):Nat:=σ.mm.cs.length
def iL(h:Nat)(w:List Nat):Prop:=∀k,k<w.length->sl h k=w.getD k 0
def uJ(σ:Kw)(i:Int)(w:List Nat):Prop:=(σ.nd i).kind=2/\σ.way i=w
def oW(σ:Kw)(m:Int)(w:List Nat)(g:Int):Prop:=bV (σ.nd m)/\σ.way m=w/\σ.gb m<=g
def bB(σ:Kw)(m:Int):Prop:=σ.ce (σ.nd m).prev=0
def qI(σ:Kw)(m p:Int):Prop:=oW σ p (σ.way m) (σ.gb m)/\bB σ p
def M5(σ:Kw)(w:List Nat)(g b:Int):Prop:=((σ.nd b).kind=4/\iL (σ.nd b).hash.toNat w)∨((σ.nd b).kind=2/\σ.way b=w/\(σ.nd b).gen<=g)
structure NdI(H:ByteArray->Nat)(σ:Kw)(r:Int):Prop where
 valid:cC (σ.nd r).nd (σ.nd r).xs (σ.nd r).ys
 gen:(σ.nd r).gen<=σ.mm.gen
 bd:mC σ.len σ.cl (σ.nd r)
 k2:(σ.nd r).kind=2->(σ.way r).length<=11/\1<=(σ.nd r).main/\σ.ct (σ.nd r).main=.main r
 k3:(σ.nd r).kind=3->(σ.way r).length<=10/\(∀k:Nat,∀b,lI (σ.nd r) k=some b->M5 σ (σ.way r++[k]) (σ.gb r) b)/\(0<(σ.way r).length->(σ.nd r).xs≠[]/\∀b,(σ.nd r).xs=[b]->(σ.nd b).kind=2)/\1<=(σ.nd r).prev/\σ.ct (σ.nd r).prev=.prev r
 k4:(σ.nd r).kind=4->H (σ.nd r).key=(σ.nd r).hash.toNat
 k5:(σ.nd r).kind=5->0<(σ.way r).length/\(σ.way r).length<=11/\H (σ.nd r).key=(σ.nd r).hash.toNat/\iL (σ.nd r).hash.toNat (σ.way r)/\1<=(σ.nd r).prev/\σ.ct (σ.nd r).prev=.prev r
 k6:(σ.nd r).kind=6->(σ.way r).length=11/\iL (σ.nd r).hash.toNat (σ.way r)/\(∀p∈(σ.nd r).ys,H p.1=(σ.nd r).hash.toNat)/\1<=(σ.nd r).prev/\σ.ct (σ.nd r).prev=.prev r
 k7:(σ.nd r).kind=7->bV (σ.nd (σ.nd r).bK)
 k8:(σ.nd r).kind=8->uJ σ (σ.nd r).bK []/\uJ σ (σ.nd r).new []/\1<=(σ.nd r).status/\σ.ct (σ.nd r).status=.stat r
structure ou(σ:Kw)(c:Int):Prop where
 lo:0<=σ.ce c
 hi:σ.ce c<=σ.len
 main:∀i,σ.ct c=.main i->(σ.nd i).kind=2/\oW σ (σ.ce c) (σ.way i) (σ.nd i).gen
 prev:∀m,σ.ct c=.prev m->bV (σ.nd m)/\(σ.ce c=0∨qI σ m (σ.ce c)∨((σ.nd (σ.ce c)).kind=7/\qI σ m (σ.nd (σ.ce c)).bK))
 stat:∀d,σ.ct c=.stat d->σ.ce c=0∨σ.ce c=1∨σ.ce c=2
 root:σ.ct c=.root->uJ σ (σ.ce c) []∨(σ.nd (σ.ce c)).kind=8
 rort:σ.ct c=.rort->uJ σ (σ.ce c) []
structure Inv(H:ByteArray->Nat)(σ:Kw):Prop where
 two:2<=σ.len
 m1:(σ.nd 1).kind=1
 m2:(σ.nd 2).kind=1
 gen:0<=σ.mm.gen
 prop:gL σ.mm.nodes σ.mm.cs σ.mm.gen
 nd:∀r:Int,1<=r->r<=σ.len->NdI H σ r
 ce:∀c:Int,1<=c->c<=σ.cl->ou σ c
structure Le(σ τ:Kw):Prop where
 nodes:∃N,τ.mm.nodes=σ.mm.nodes++N
 cl:σ.cl<=τ.cl
 gen:σ.mm.gen<=τ.mm.gen
 way:∀r:Int,r<=σ.len->τ.way r=σ.way r
 gb:∀r:Int,r<=σ.len->τ.gb r=σ.gb r
 ct:∀c:Int,c<=σ.cl->τ.ct c=σ.ct c
 done:∀(c m:Int),1<=c->c<=σ.cl->σ.ct c=.prev m->¬bV (σ.nd (σ.ce c))->τ.ce c=σ.ce c
 next:∀(c m:Int),1<=c->c<=σ.cl->σ.ct c=.prev m->bV (σ.nd (σ.ce c))->τ.ce c=σ.ce c∨τ.ce c=0∨((τ.nd (τ.ce c)).kind=7/\(τ.nd (τ.ce c)).bK=σ.ce c)
theorem Le.refl(σ:Kw):Le σ σ:=⟨⟨[],by simp⟩,Nat.le_refl _,Int.le_refl _,λ _ _=>rfl,λ _ _=>rfl,λ _ _=>rfl,λ _ _ _ _ _ _=>rfl,λ _ _ _ _ _ _=>.inl rfl⟩
section
variable{H:ByteArray->Nat}{σ τ υ:Kw}
theorem Le.len(h:Le σ τ):σ.len<=τ.len:=by obtain⟨N,e⟩:=h.nodes;simp only[Kw.len,e,List.length_append];omega
theorem Le.nd(h:Le σ τ){r:Int}(hr:r<=σ.len):τ.nd r=σ.nd r:=by obtain⟨N,e⟩:=h.nodes;simp only[Kw.nd,e];exact mN hr
theorem iD{N:List Nv}{r:Int}(h:bV (bA N r)):1<=r/\r<=N.length:=dG (by unfold bV at h;omega)
theorem bV.ne0{n:Nv}(h:bV n):n.kind≠0/\n.kind≠7/\n.kind≠2/\n.kind≠8:=by unfold bV at h;omega
theorem jL{n:Nv}(h:n.kind=0∨n.kind=7∨n.kind=2∨n.kind=8∨n.kind=1):¬bV n:=λ hm=>by unfold bV at hm;omega
theorem xL(N:List Nv):(bA N 0).kind=0:=by unfold bA;rw[if_neg (by omega)];rfl
def Nxt(σ τ:Kw)(v v':Int):Prop:=(¬bV (σ.nd v)->v'=v)/\(bV (σ.nd v)->v'=v∨v'=0∨((τ.nd v').kind=7/\(τ.nd v').bK=v))
theorem Le.nxt(h:Le σ τ){c m:Int}(h1:1<=c)(hc:c<=σ.cl)(e:σ.ct c=.prev m):Nxt σ τ (σ.ce c) (τ.ce c):=⟨h.done c m h1 hc e,h.next c m h1 hc e⟩
theorem Le.trans(i1:Inv H σ)(i2:Inv H τ)(h:Le σ τ)(h2:Le τ υ):Le σ υ:=by
 have hl:=h.len
 have hl2:=h2.len
 refine⟨?_,Nat.le_trans h.cl h2.cl,Int.le_trans h.gen h2.gen,λ r hr=>(h2.way r (by omega)).trans (h.way r hr),λ r hr=>(h2.gb r (by omega)).trans (h.gb r hr),λ c hc=>(h2.ct c (by have:=h.cl;omega)).trans (h.ct c hc),λ c m h1 hc e hk=>?_,λ c m h1 hc e hk=>?_⟩
 ·obtain⟨N,e⟩:=h.nodes
  obtain⟨N2,e2⟩:=h2.nodes
  exact⟨N++N2,by rw[e2,e,List.append_assoc]⟩
 ·have e1:=h.done c m h1 hc e hk
  have e2:τ.ct c=.prev m:=(h.ct c hc).trans e
  rw[<- e1]
  refine h2.done c m h1 (by have:=h.cl;omega) e2 ?_
  rw[e1,h.nd (i1.ce c h1 hc).hi]
  exact hk
 ·have e2:τ.ct c=.prev m:=(h.ct c hc).trans e
  have hc2:c<=τ.cl:=by have:=h.cl;omega
  rcases h.next c m h1 hc e hk with e1|e1|⟨e1,e3⟩
  ·rw[<- e1]
   refine h2.next c m h1 hc2 e2 ?_
   rw[e1,h.nd (i1.ce c h1 hc).hi]
   exact hk
  ·refine .inr (.inl ?_)
   rw[h2.done c m h1 hc2 e2 (by rw[e1];exact jL (.inl (xL _))),e1]
  ·refine .inr (.inr ?_)
   rw[h2.done c m h1 hc2 e2 (jL (.inr (.inl e1))),h2.nd (i2.ce c h1 hc2).hi]
   exact⟨e1,e3⟩
def WT(H:ByteArray->Nat)(Q:Rs->Kw->Prop):Tr->Kw->Prop
 | .done r,σ=>Q r σ
 | .load c k,σ=>∀τ,Le σ τ->Inv H τ->WT H Q (k (τ.ce c)) τ
 | .jW c o n k,σ=>∀τ,Le σ τ->Inv H τ->(gA τ.mm.cs c o->∃υ,Le τ υ/\Inv H υ/\υ.mm=⟨τ.mm.nodes,eG τ.mm.cs c o n,τ.mm.gen⟩/\WT H Q (k true) υ)/\(¬gA τ.mm.cs c o->WT H Q (k false) τ)
 | .alloc n i k,σ=>∃υ,Le σ υ/\Inv H υ/\υ.mm=σ.mm.push n i/\WT H Q (k ((σ.len+1:Nat):Int)) υ
 | .cell i k,σ=>∃υ,Le σ υ/\Inv H υ/\υ.mm=⟨σ.mm.nodes,σ.mm.cs++[i],σ.mm.gen⟩/\WT H Q (k ((σ.cl+1:Nat):Int)) υ
 | .gen k,σ=>∃υ,Le σ υ/\Inv H υ/\υ.mm=⟨σ.mm.nodes,σ.mm.cs,σ.mm.gen+1⟩/\WT H Q (k (σ.mm.gen+1)) υ
 | .node r k,σ=>r<=σ.len/\WT H Q (k (σ.nd r)) σ
 | .stuck,_=>True
def eE:Tr->Bool
 | .load _ _=>true
 | .jW _ _ _ _=>true
 | .done _=>true
 | _=>false
theorem WT.sp{Q:Rs->Kw->Prop}{t t':Tr}{s':Mm}(i1:Inv H σ)(w:WT H Q t σ)(h:Sp t σ.mm t' s'):∃υ,Le σ υ/\Inv H υ/\υ.mm=s'/\WT H Q t' υ:=by
 cases h with
 | alloc n i k s=>exact w
 | cell i k s=>exact w
 | gen k s=>exact w
 | node r k s h=>exact⟨σ,Le.refl σ,i1,rfl,w.2⟩
theorem WT.lp{Q:Rs->Kw->Prop}{t t':Tr}{s':Mm}(i1:Inv H σ)(w:WT H Q t σ)(h:Lp t σ.mm t' s'):∃υ,Le σ υ/\Inv H υ/\υ.mm=s'/\WT H Q t' υ:=by
 cases h with
 | load c k s=>exact⟨σ,Le.refl σ,i1,rfl,w σ (Le.refl σ) i1⟩
 | jW c o n k s b hb =>
  obtain⟨w1,w2⟩:=w σ (Le.refl σ) i1
  cases b with
  | true=>exact w1 (hb.1 rfl)
  | false =>
   have hn:¬gA σ.mm.cs c o:=λ h=>by have:=hb.2 h;cases this
   refine⟨σ,Le.refl σ,i1,?_,w2 hn⟩
   rw[show eG σ.mm.cs c o n=σ.mm.cs from rF hn]
theorem WT.rc{Q:Rs->Kw->Prop}{t:Tr}{s:Mm}{j:Nat}{t':Tr}{s':Mm}(h:Rc j t s t' s'):∀{σ:Kw},σ.mm=s->Inv H σ->WT H Q t σ->∃υ,Le σ υ/\Inv H υ/\υ.mm=s'/\WT H Q t' υ:=by
 induction h with
 | refl t s=>intro σ e i w;exact⟨σ,Le.refl σ,i,e,w⟩
 | gF _ hs ih =>
  intro σ e i w
  obtain⟨υ,l1,i1,e1,w1⟩:=ih e i w
  subst e1
  obtain⟨ρ,l2,i2,e2,w2⟩:=w1.sp i1 hs
  exact⟨ρ,l1.trans i i1 l2,i2,e2,w2⟩
 | loud _ hs ih =>
  intro σ e i w
  obtain⟨υ,l1,i1,e1,w1⟩:=ih e i w
  subst e1
  obtain⟨ρ,l2,i2,e2,w2⟩:=w1.lp i1 hs
  exact⟨ρ,l1.trans i i1 l2,i2,e2,w2⟩
end
end
section
open Go.Ct
section
variable{H:ByteArray->Nat}{σ τ υ:Kw}{r:Int}{w:List Nat}
theorem iP{cs:List Int}{c o v:Int}(h:gA cs c o)(c':Int):aS (eG cs c o v) c'=if c'=c then v else aS cs c':=by
 have hl:=fN (cs:=cs) (c:=c) (bK:=o) (new:=v)
 obtain⟨h1,h2,h3⟩:=h
 have e:eG cs c o v=cs.set (c-1).toNat v:=if_pos ⟨h1,h2,h3⟩
 unfold aS
 rw[hl]
 by_cases hc:1<=c'/\c'<=cs.length
 ·rw[if_pos hc,if_pos hc,e]
  by_cases e2:c'=c
  ·subst e2
   rw[if_pos rfl]
   rw[iU,List.getElem?_set,if_pos rfl,if_pos (by omega)]
   rfl
  ·rw[if_neg e2]
   rw[iU,List.getElem?_set,if_neg (by omega),iU]
 ·rw[if_neg hc,if_neg hc,if_neg (by omega)]
theorem sS{cs:List Int}{c o:Int}(h:gA cs c o):aS cs c=o:=by
 obtain⟨h1,h2,h3⟩:=h
 unfold aS
 rw[if_pos ⟨h1,h2⟩,h3]
theorem uJ.in(h:uJ σ r w):1<=r/\r<=σ.len:=dG (by rw[h.1];decide)
theorem oW.in{g:Int}(h:oW σ r w g):1<=r/\r<=σ.len:=iD h.1
theorem Inv.jI(i:Inv H σ){m:Int}(h:bV (σ.nd m)):1<=(σ.nd m).prev/\(σ.nd m).prev<=σ.cl/\σ.ct (σ.nd m).prev=.prev m:=by
 have hr:=iD h
 have hn:=i.nd m hr.1 hr.2
 have hb:=hn.bd.prev
 rcases h with h|h|h
 ·have:=hn.k3 h;exact⟨this.2.2.2.1,hb,this.2.2.2.2⟩
 ·have:=hn.k5 h;exact⟨this.2.2.2.2.1,hb,this.2.2.2.2.2⟩
 ·have:=hn.k6 h;exact⟨this.2.2.2.1,hb,this.2.2.2.2⟩
theorem Inv.dO(i:Inv H σ){r:Int}(h:(σ.nd r).kind=2):1<=(σ.nd r).main/\(σ.nd r).main<=σ.cl/\σ.ct (σ.nd r).main=.main r:=by
 have hr:=dG (N:=σ.mm.nodes) (i:=r) (by rw[h];decide)
 have hn:=i.nd r hr.1 hr.2
 exact⟨(hn.k2 h).2.1,hn.bd.main,(hn.k2 h).2.2⟩
theorem Inv.ew(i:Inv H σ){r:Int}(h:(σ.nd r).kind=8):1<=(σ.nd r).status/\(σ.nd r).status<=σ.cl/\σ.ct (σ.nd r).status=.stat r:=by
 have hr:=dG (N:=σ.mm.nodes) (i:=r) (by rw[h];decide)
 have hn:=i.nd r hr.1 hr.2
 exact⟨(hn.k8 h).2.2.1,hn.bd.status,(hn.k8 h).2.2.2⟩
theorem uJ.up(h:uJ σ r w)(l:Le σ τ):uJ τ r w:=by
 have hr:=h.in
 exact⟨by rw[l.nd hr.2];exact h.1,by rw[l.way r hr.2];exact h.2⟩
theorem oW.up{g:Int}(h:oW σ r w g)(l:Le σ τ):oW τ r w g:=by
 have hr:=h.in
 exact⟨by rw[l.nd hr.2];exact h.1,by rw[l.way r hr.2];exact h.2.1,by rw[l.gb r hr.2];exact h.2.2⟩
theorem oW.le{g g':Int}(h:oW σ r w g)(hg:g<=g'):oW σ r w g':=⟨h.1,h.2.1,Int.le_trans h.2.2 hg⟩
theorem bB.up(i:Inv H σ)(hm:bV (σ.nd r))(h:bB σ r)(l:Le σ τ):bB τ r:=by
 have hc:=i.jI hm
 unfold bB
 rw[l.nd (iD hm).2,l.done _ r hc.1 hc.2.1 hc.2.2 (by rw[h];exact jL (.inl (xL _)))]
 exact h
theorem ou.same{c:Int}(h:ou σ c)(hm:υ.mm.nodes=σ.mm.nodes)(hw:υ.way=σ.way)(hg:υ.gb=σ.gb)(hct:υ.ct=σ.ct)(hc:υ.ce c=σ.ce c)(hs:∀p,bV (σ.nd p)->bB σ p->bB υ p):ou υ c:=by
 have hl:υ.len=σ.len:=by simp only[Kw.len,hm]
 have hn:∀r,υ.nd r=σ.nd r:=λ r=>by simp only[Kw.nd,hm]
 have hM:∀p w g,oW σ p w g->oW υ p w g:=λ p w g h=>⟨by rw[hn];exact h.1,by rw[hw];exact h.2.1,by rw[hg];exact h.2.2⟩
 have hP:∀m p,qI σ m p->qI υ m p:=λ m p h=>⟨by rw[hw,hg];exact hM _ _ _ h.1,hs p h.1.1 h.2⟩
 refine⟨by rw[hc];exact h.lo,by rw[hc,hl];exact h.hi,λ i e=>?_,λ m e=>?_,λ d e=>?_,λ e=>?_,λ e=>?_⟩
 ·rw[hc,hw,hn]
  obtain⟨h0,h1⟩:=h.main i (by rw[<- hct];exact e)
  exact⟨h0,hM _ _ _ h1⟩
 ·rw[hc,hn,hn]
  obtain⟨h0,h⟩:=h.prev m (by rw[<- hct];exact e)
  refine⟨h0,?_⟩
  rcases h with h1|h1|⟨h1,h2⟩
  ·exact .inl h1
  ·exact .inr (.inl (hP _ _ h1))
  ·exact .inr (.inr ⟨h1,hP _ _ h2⟩)
 ·rw[hc];exact h.stat d (by rw[<- hct];exact e)
 ·rw[hc,hn]
  rcases h.root (by rw[<- hct];exact e) with h1|h1
  ·exact .inl ⟨by rw[hn];exact h1.1,by rw[hw];exact h1.2⟩
  ·exact .inr h1
 ·rw[hc]
  have h1:=h.rort (by rw[<- hct];exact e)
  exact⟨by rw[hn];exact h1.1,by rw[hw];exact h1.2⟩
theorem gL.jW{N:List Nv}{cs:List Int}{gen c o v:Int}(h:gL N cs gen)(lo:0<=v)(hi:v<=N.length):gL N (eG cs c o v) gen:=by
 unfold eG
 split
 ·refine⟨h.two,h.gen0,h.m0,h.m1,λ i hi'=>?_,h.nodes,by rw[List.length_set];exact h.marks⟩
  rw[List.length_set] at hi'
  rw[iU,List.getElem?_set]
  split
  ·rw[if_pos (by omega)]
   exact⟨lo,by rw[List.length_map];exact hi⟩
  ·rw[<- iU]
   exact h.cells i hi'
 ·exact h
structure Wm(σ:Kw)(c o v:Int):Prop where
 lo:0<=v
 hi:v<=σ.len
 main:∀i,σ.ct c=.main i->oW σ v (σ.way i) (σ.nd i).gen
 prev:∀m,σ.ct c=.prev m->bV (σ.nd o)/\(v=0∨((σ.nd v).kind=7/\(σ.nd v).bK=o))
 stat:∀d,σ.ct c=.stat d->v=0∨v=1∨v=2
 root:σ.ct c=.root->uJ σ v []∨(σ.nd v).kind=8
 rort:σ.ct c=.rort->uJ σ v []
def Kw.set(σ:Kw)(c o v:Int):Kw:=⟨⟨σ.mm.nodes,eG σ.mm.cs c o v,σ.mm.gen⟩,σ.way,σ.gb,σ.ct⟩
theorem tv{c o v:Int}(i:Inv H σ)(hk:gA σ.mm.cs c o)(hs:Wm σ c o v):Le σ (σ.set c o v)/\Inv H (σ.set c o v)/\(σ.set c o v).ce c=v:=by
 unfold Kw.set
 refine⟨?_,?_,by show aS (eG _ _ _ _) c=v;rw[iP hk,if_pos rfl]⟩
 ·refine⟨⟨[],by simp⟩,by simp only[Kw.cl,fN];exact Nat.le_refl _,Int.le_refl _,λ _ _=>rfl,λ _ _=>rfl,λ _ _=>rfl,λ c' m h1 hc e hm=>?_,λ c' m h1 hc e hm=>?_⟩
  ·show aS (eG _ _ _ _) c'=_
   rw[iP hk]
   split
   ·rename_i e2
    subst e2
    exact absurd (by rw[show σ.ce c'=o from sS hk];exact(hs.prev m e).1) hm
   ·rfl
  ·show aS (eG _ _ _ _) c'=_∨aS (eG _ _ _ _) c'=_∨_
   rw[iP hk]
   split
   ·rename_i e2
    subst e2
    have e3:σ.ce c'=o:=sS hk
    rcases(hs.prev m e).2 with h|h
    ·exact .inr (.inl h)
    ·refine .inr (.inr ?_)
     show(bA σ.mm.nodes (aS (eG _ _ _ _) c')).kind=7/\(bA σ.mm.nodes (aS (eG _ _ _ _) c')).bK=_
     rw[iP hk,if_pos rfl,e3]
     exact h
   ·exact .inl rfl
 ·have hcl:(eG σ.mm.cs c o v).length=σ.cl:=fN
  refine⟨i.two,i.m1,i.m2,i.gen,gL.jW i.prop hs.lo hs.hi,λ r h1 h2=>?_,λ c' h1 h2=>?_⟩
  ·have h:=i.nd r h1 h2
   exact⟨h.valid,h.gen,by simp only[Kw.cl,hcl];exact h.bd,h.k2,h.k3,h.k4,h.k5,h.k6,h.k7,h.k8⟩
  ·simp only[Kw.cl,hcl] at h2
   have hset:∀p,bV (σ.nd p)->bB σ p->aS (eG σ.mm.cs c o v) (σ.nd p).prev=0:=λ p hm hp=>by
    rw[iP hk]
    split
    ·rename_i e
     have hc:=(i.jI hm).2.2
     rw[e] at hc
     have h0:σ.ce (σ.nd p).prev=0:=hp
     rw[e,show σ.ce c=o from sS hk] at h0
     have:=(hs.prev p hc).1
     rw[h0] at this
     exact absurd this (jL (.inl (xL _)))
    ·exact hp
   by_cases e:c'=c
   ·subst e
    have e2:aS (eG σ.mm.cs c' o v) c'=v:=by rw[iP hk,if_pos rfl]
    have e3:σ.ce c'=o:=sS hk
    refine⟨by simp only[Kw.ce,e2];exact hs.lo,by simp only[Kw.ce,e2];exact hs.hi,λ i' h=>?_,λ m h=>?_,λ d h=>?_,λ h=>?_,λ h=>?_⟩
    ·simp only[Kw.ce,e2];exact⟨((i.ce c' h1 h2).main i' h).1,hs.main i' h⟩
    ·simp only[Kw.ce,e2]
     have hp:=hs.prev m h
     have hold:qI σ m o:=by
      rcases((i.ce c' h1 h2).prev m h).2 with h3|h3|h3
      ·rw[e3] at h3;rw[h3] at hp;exact absurd hp.1 (jL (.inl (xL _)))
      ·rwa [e3] at h3
      ·rw[e3] at h3;exact absurd hp.1 (jL (.inr (.inl h3.1)))
     refine⟨((i.ce c' h1 h2).prev m h).1,?_⟩
     rcases hp.2 with h3|⟨h3,h4⟩
     ·exact .inl h3
     ·refine .inr (.inr ⟨h3,?_⟩)
      show qI _ m (σ.nd v).bK
      rw[h4]
      exact⟨hold.1,hset _ hp.1 hold.2⟩
    ·simp only[Kw.ce,e2];exact hs.stat d h
    ·simp only[Kw.ce,e2];exact hs.root h
    ·simp only[Kw.ce,e2];exact hs.rort h
   ·exact(i.ce c' h1 h2).same rfl rfl rfl rfl (by show aS (eG _ _ _ _) c'=_;rw[iP hk,if_neg e]) hset
structure Ext(σ υ:Kw):Prop where
 nodes:∃N,υ.mm.nodes=σ.mm.nodes++N
 cs:∃C,υ.mm.cs=σ.mm.cs++C
 gen:σ.mm.gen<=υ.mm.gen
 way:∀r:Int,r<=σ.len->υ.way r=σ.way r
 gb:∀r:Int,r<=σ.len->υ.gb r=σ.gb r
 ct:∀c:Int,c<=σ.cl->υ.ct c=σ.ct c
theorem lW{cs C:List Int}{c:Int}(h:c<=cs.length):aS (cs++C) c=aS cs c:=by
 unfold aS
 by_cases h1:1<=c
 ·rw[if_pos ⟨h1,by simp;omega⟩,if_pos ⟨h1,h⟩,iU,iU,List.getElem?_append_left (by omega)]
 ·rw[if_neg (by omega),if_neg (by omega)]
theorem Ext.ce(e:Ext σ υ){c:Int}(h:c<=σ.cl):υ.ce c=σ.ce c:=by obtain⟨C,h2⟩:=e.cs;simp only[Kw.ce,h2];exact lW h
theorem Ext.cl(e:Ext σ υ):σ.cl<=υ.cl:=by obtain⟨C,h2⟩:=e.cs;simp only[Kw.cl,h2,List.length_append];omega
theorem Ext.le(e:Ext σ υ):Le σ υ:=⟨e.nodes,e.cl,e.gen,e.way,e.gb,e.ct,λ _ _ _ h _ _=>e.ce h,λ _ _ _ h _ _=>.inl (e.ce h)⟩
theorem M5.up{g b:Int}(h:M5 σ w g b)(l:Le σ υ):M5 υ w g b:=by
 rcases h with h|h
 ·have hr:=dG (N:=σ.mm.nodes) (i:=b) (by rw[h.1];decide)
  exact .inl (by rw[l.nd hr.2];exact h)
 ·have hr:=dG (N:=σ.mm.nodes) (i:=b) (by rw[h.1];decide)
  exact .inr (by rw[l.nd hr.2,l.way b hr.2];exact h)
theorem NdI.ext(h:NdI H σ r)(hr:r<=σ.len)(e:Ext σ υ):NdI H υ r:=by
 have l:=e.le
 have hn:=l.nd hr
 have hw:=l.way r hr
 have hk:∀b,(σ.nd b).kind=2->(υ.nd b).kind=2:=λ b hb=>by rw[l.nd (dG (N:=σ.mm.nodes) (i:=b) (by rw[hb];decide)).2];exact hb
 refine⟨by rw[hn];exact h.valid,by rw[hn];have:=h.gen;have:=e.gen;omega,by rw[hn];exact h.bd.mono l.len l.cl,λ k=>?_,λ k=>?_,λ k=>?_,λ k=>?_,λ k=>?_,λ k=>?_,λ k=>?_⟩<;>rw[hn] at k ⊢
 ·obtain⟨h1,h2,h3⟩:=h.k2 k
  exact⟨by rw[hw];exact h1,h2,by rw[l.ct _ h.bd.main];exact h3⟩
 ·obtain⟨h1,h2,h3,h4,h5⟩:=h.k3 k
  rw[hw]
  refine⟨h1,λ k' b hb=>by rw[l.gb r hr];exact(h2 k' b hb).up l,λ h0=>⟨(h3 h0).1,λ b hb=>hk b ((h3 h0).2 b hb)⟩,h4,by rw[l.ct _ h.bd.prev];exact h5⟩
 ·exact h.k4 k
 ·rw[hw,l.ct _ h.bd.prev];exact h.k5 k
 ·rw[hw,l.ct _ h.bd.prev];exact h.k6 k
 ·have:=h.k7 k
  rw[l.nd (iD this).2];exact this
 ·obtain⟨h1,h2,h3,h4⟩:=h.k8 k
  exact⟨h1.up l,h2.up l,h3,by rw[l.ct _ h.bd.status];exact h4⟩
theorem ou.ext{c:Int}(i:Inv H σ)(h:ou σ c)(hc:c<=σ.cl)(e:Ext σ υ):ou υ c:=by
 have l:=e.le
 have hv:=e.ce hc
 have hP:∀m p:Int,m<=σ.len->qI σ m p->qI υ m p:=λ m p hm hp=>⟨by rw[l.way m hm,l.gb m hm];exact hp.1.up l,bB.up i hp.1.1 hp.2 l⟩
 refine⟨by rw[hv];exact h.lo,by rw[hv];have:=h.hi;have:=l.len;omega,λ i' k=>?_,λ m k=>?_,λ d k=>?_,λ k=>?_,λ k=>?_⟩<;>rw[l.ct c hc] at k<;>rw[hv]
 ·obtain⟨h1,h2⟩:=h.main i' k
  have hr:=dG (N:=σ.mm.nodes) (i:=i') (by rw[h1];decide)
  rw[l.nd hr.2,l.way i' hr.2]
  exact⟨h1,h2.up l⟩
 ·obtain⟨h1,h2⟩:=h.prev m k
  have hr:=iD h1
  rw[l.nd hr.2]
  refine⟨h1,?_⟩
  rcases h2 with h2|h2|⟨h2,h3⟩
  ·exact .inl h2
  ·exact .inr (.inl (hP m _ hr.2 h2))
  ·refine .inr (.inr ?_)
   rw[l.nd h.hi]
   exact⟨h2,hP m _ hr.2 h3⟩
 ·exact h.stat d k
 ·rcases h.root k with h1|h1
  ·exact .inl (h1.up l)
  ·exact .inr (by rw[l.nd h.hi];exact h1)
 ·exact(h.rort k).up l
theorem Nj(i:Inv H σ)(e:Ext σ υ)(hp:gL υ.mm.nodes υ.mm.cs υ.mm.gen)(hn:∀r:Int,σ.len<r->r<=υ.len->NdI H υ r)(hc:∀c:Int,σ.cl<c->c<=υ.cl->ou υ c):Inv H υ:=by
 have l:=e.le
 refine⟨Nat.le_trans i.two l.len,by rw[l.nd (by have:=i.two;omega)];exact i.m1,by rw[l.nd (by have:=i.two;omega)];exact i.m2,Int.le_trans i.gen e.gen,hp,λ r h1 h2=>?_,λ c h1 h2=>?_⟩
 ·rcases Int.lt_or_le σ.len r with h|h
  ·exact hn r h h2
  ·exact(i.nd r h1 h).ext h e
 ·rcases Int.lt_or_le σ.cl c with h|h
  ·exact hc c h h2
  ·exact ou.ext i (i.ce c h1 h) h e
def Kw.add(σ:Kw)(n:Nv)(i:Int)(w:List Nat)(g:Int)(t:CT):Kw :=
 ⟨σ.mm.push n i,λ r=>if r<=σ.len then σ.way r else w,λ r=>if r<=σ.len then σ.gb r else g,λ c=>if c<=σ.cl then σ.ct c else t⟩
theorem Xa(σ:Kw)(n:Nv)(i:Int)(w:List Nat)(g:Int)(t:CT):Ext σ (σ.add n i w g t) :=
 ⟨⟨_,rfl⟩,by unfold Kw.add Mm.push eZ;dsimp only;split;exact⟨_,rfl⟩;exact⟨[],by simp⟩,Int.le_refl _,λ r hr=>if_pos hr,λ r hr=>if_pos hr,λ c hc=>if_pos hc⟩
theorem W7(σ:Kw)(n:Nv)(i:Int)(w:List Nat)(g:Int)(t:CT):(σ.add n i w g t).len=σ.len+1:=by simp[Kw.len,Kw.add,Mm.push]
theorem y6(σ:Kw)(n:Nv)(i:Int)(w:List Nat)(g:Int)(t:CT):(σ.add n i w g t).nd ((σ.len+1:Nat):Int)=cY n σ.cl:=by
 simp only[Kw.nd,Kw.add,Mm.push,bA,List.length_append,List.length_cons,List.length_nil]
 rw[if_pos ⟨by omega,by simp only[Kw.len];omega⟩]
 have e:(((σ.len+1:Nat):Int)-1).toNat=σ.mm.nodes.length:=by simp only[Kw.len];omega
 rw[e]
 simp[iU]
theorem sb(σ:Kw)(n:Nv)(i:Int)(w:List Nat)(g:Int)(t:CT):(σ.add n i w g t).way ((σ.len+1:Nat):Int)=w:=if_neg (by omega)
theorem zf(σ:Kw)(n:Nv)(i:Int)(w:List Nat)(g:Int)(t:CT):(σ.add n i w g t).gb ((σ.len+1:Nat):Int)=g:=if_neg (by omega)
theorem aAR(σ:Kw)(n:Nv)(i:Int)(w:List Nat)(g:Int)(t:CT):(σ.add n i w g t).ct ((σ.cl+1:Nat):Int)=t:=if_neg (by omega)
theorem zg(σ:Kw){n:Nv}(i:Int)(w:List Nat)(g:Int)(t:CT)(h:n.kind=2∨n.kind=3∨n.kind=5∨n.kind=6∨n.kind=8):(σ.add n i w g t).cl=σ.cl+1/\(σ.add n i w g t).ce ((σ.cl+1:Nat):Int)=i:=by
 have e:(σ.add n i w g t).mm.cs=σ.mm.cs++[i]:=by simp only[Kw.add,Mm.push,eZ];exact if_pos h
 refine⟨by simp[Kw.cl,e],?_⟩
 simp only[Kw.ce,e,aS,List.length_append,List.length_cons,List.length_nil]
 rw[if_pos ⟨by omega,by simp only[Kw.cl];omega⟩]
 have e2:(((σ.cl+1:Nat):Int)-1).toNat=σ.mm.cs.length:=by simp only[Kw.cl];omega
 rw[e2]
 simp[iU]
theorem ru(σ:Kw){n:Nv}(i:Int)(w:List Nat)(g:Int)(t:CT)(h:¬(n.kind=2∨n.kind=3∨n.kind=5∨n.kind=6∨n.kind=8)):(σ.add n i w g t).cl=σ.cl:=by
 have e:(σ.add n i w g t).mm.cs=σ.mm.cs:=by simp only[Kw.add,Mm.push,eZ];exact if_neg h
 simp[Kw.cl,e]
theorem um{n:Nv}{i:Int}{g:Int}{t:CT}(h:Inv H σ)(hok:nC σ.mm.gen (σ.len+1) (cY n σ.cl).dv)(hi:Ej i σ.len)(hn:NdI H (σ.add n i w g t) ((σ.len+1:Nat):Int))(hc:(σ.add n i w g t).cl=σ.cl+1->ou (σ.add n i w g t) ((σ.cl+1:Nat):Int))(hcl:(σ.add n i w g t).cl<=σ.cl+1):Inv H (σ.add n i w g t):=by
 refine Nj h (Xa σ n i w g t) (gL.push h.prop hok hi) (λ r h1 h2=>?_) (λ c h1 h2=>?_)
 ·rw[W7] at h2
  rw[show r=((σ.len+1:Nat):Int) by omega];exact hn
 ·rw[show c=((σ.cl+1:Nat):Int) by omega];exact hc (by omega)
end
end
end Go.Proofs.YtbajmaoegmbfgaaGreat
namespace Go.Ct
section
section
variable{gen:Int}{n c:Nat}
theorem M0(h:0<=gen):nC gen n fK.c.dv:=⟨⟨by simp[sQ,Nd.own,Nd.jZ,Nd.jH,fK,Nd.zero,aQ.c,Nd.c,Nv.dv,Nv.nd],by decide,by decide,by decide,.inl rfl⟩,h,λ i hi=>by simp[fK,aQ.c,Nd.c,Nv.dv] at hi,⟨by decide,bL n⟩,⟨by decide,bL n⟩,⟨by decide,bL n⟩⟩
theorem fW:Ej 0 n:=⟨Int.le_refl _,bL n⟩
theorem X7{h u:Int}{k:ByteArray}(hg:0<=gen)(hk:k.size<=64):nC gen n (cY (({Nd.zero with kind:=4,hash:=h,key:=k,val:=u}:Nd).c [] []) c).dv :=
 ⟨⟨by simp[sQ,Nd.own,Nd.jZ,Nd.jH,Nd.zero,cY,Nd.c,Nv.dv,Nv.nd],by simp[cY,Nd.c,Nv.dv,Nv.nd,Nd.zero],by simp[cY,Nd.c,Nv.dv,Nv.nd,Nd.zero],by simp[cY,Nd.c,Nv.dv,Nv.nd,Nd.zero],.inr (.inr (.inr (.inl ⟨.inl rfl,hk⟩)))⟩,hg,λ i hi=>by simp[cY,Nd.c,Nv.dv] at hi,fW,fW,fW⟩
theorem fq{g:Int}(hg:g<=gen)(h1:1<=g):nC gen n (cY (({Nd.zero with kind:=2,gen:=g}:Nd).c [] []) c).dv :=
 ⟨⟨by simp[sQ,Nd.own,Nd.jZ,Nd.jH,Nd.zero,cY,Nd.c,Nv.dv,Nv.nd],by simp[cY,Nd.c,Nv.dv,Nv.nd,Nd.zero];omega,by simp[cY,Nd.c,Nv.dv,Nv.nd,Nd.zero],by simp[cY,Nd.c,Nv.dv,Nv.nd,Nd.zero],.inr (.inl ⟨rfl,h1⟩)⟩,hg,λ i hi=>by simp[cY,Nd.c,Nv.dv] at hi,fW,fW,fW⟩
theorem m7{b:Nat}{xs:List Int}(hg:0<=gen)(hb:BV b xs)(hx:∀r∈xs,r<=n):nC gen n (cY (({Nd.zero with kind:=3,bm:=(b:Int)}:Nd).c xs []) c).dv :=
 ⟨⟨by simp[sQ,Nd.own,Nd.jZ,Nd.jH,Nd.zero,cY,Nd.c,Nv.dv,Nv.nd],by simp[cY,Nd.c,Nv.dv,Nv.nd,Nd.zero],by simp[cY,Nd.c,Nv.dv,Nv.nd,Nd.zero];omega,by simp[cY,Nd.c,Nv.dv,Nv.nd,Nd.zero],.inr (.inr (.inl ⟨rfl,by show(xs.length:Int)=yX (b:Int);rw[sM hb.lt,hb.len],hb.pos⟩))⟩,hg,λ i hi=>by
  have h1:=hb.pos i hi
  have hi':i<xs.length:=hi
  refine⟨by show 0<=xs.getD i 0;omega,hx _ ?_⟩
  show xs.getD i 0∈xs
  rw[iU,List.getElem?_eq_getElem hi']
  exact List.getElem_mem hi',fW,fW,fW⟩
theorem rj{h:Int}{ys:List Pr}(hg:0<=gen)(h2:2<=ys.length)(ha:w6 ys)(hs:Hs ys):nC gen n (cY (({Nd.zero with kind:=6,hash:=h}:Nd).c [] ys) c).dv :=
 ⟨⟨by simp[sQ,Nd.own,Nd.jZ,Nd.jH,Nd.zero,cY,Nd.c,Nv.dv,Nv.nd],by simp[cY,Nd.c,Nv.dv,Nv.nd,Nd.zero],by simp[cY,Nd.c,Nv.dv,Nv.nd,Nd.zero];omega,by simp[cY,Nd.c,Nv.dv,Nv.nd,Nd.zero],.inr (.inr (.inr (.inr (.inl ⟨rfl,h2,ha,hs⟩))))⟩,hg,λ i hi=>by simp[cY,Nd.c,Nv.dv] at hi,fW,fW,fW⟩
theorem O8(h:0<=gen):gL [fK.c,fK.c] [] gen:=by
 refine⟨by simp,h,rfl,rfl,λ i hi=>by simp at hi,λ i hi=>?_,by simp[marks,eQ,gG,fK,Nd.zero,aQ.c,Nd.c,Nv.dv,Nv.nd]⟩
 simp only[List.map_cons,List.map_nil,List.length_cons,List.length_nil] at hi
 have:i=0∨i=1:=by omega
 rcases this with rfl|rfl
 ·exact M0 h
 ·exact M0 h
end
end
end Go.Ct
namespace Go.Proofs.YtbajmaoegmbfgaaGreat
open Go.Ct
section
def Mz(k:Int)(r:Int):CT:=if k=2 then .main r else if k=8 then .stat r else .prev r
structure kS(H:ByteArray->Nat)(σ:Kw)(n:Nv)(w:List Nat)(g:Int):Prop where
 kd:n.kind=2∨n.kind=3∨n.kind=4∨n.kind=5∨n.kind=6∨n.kind=7∨n.kind=8
 ok:nC σ.mm.gen (σ.len+1) (cY n σ.cl).dv
 bd:mC (σ.len+1) (σ.cl+1) (cY n σ.cl)
 k2:n.kind=2->w.length<=11
 k3:n.kind=3->w.length<=10/\(∀k:Nat,∀b,lI (cY n σ.cl) k=some b->M5 σ (w++[k]) g b)/\(0<w.length->n.xs≠[]/\∀b,n.xs=[b]->(σ.nd b).kind=2)
 k4:n.kind=4->H n.key=n.hash.toNat
 k5:n.kind=5->0<w.length/\w.length<=11/\H n.key=n.hash.toNat/\iL n.hash.toNat w
 k6:n.kind=6->w.length=11/\iL n.hash.toNat w/\∀p∈n.ys,H p.1=n.hash.toNat
 k7:n.kind=7->bV (σ.nd n.bK)
 k8:n.kind=8->uJ σ n.bK []/\uJ σ n.new []
structure Yr(σ:Kw)(n:Nv)(i:Int)(w:List Nat)(g:Int):Prop where
 ins:Ej i σ.len
 k2:n.kind=2->oW σ i w n.gen
 kp:bV n->i=0∨(oW σ i w g/\bB σ i)
 k8:n.kind=8->i=0
section
variable{H:ByteArray->Nat}{σ τ υ:Kw}{r:Int}{w:List Nat}
theorem Y5(n:Nv)(c:Nat):(cY n c).kind=n.kind:=rfl
theorem az{n:Nv}{i g:Int}(h:Inv H σ)(hn:kS H σ n w g)(hi:Yr σ n i w g):∃υ,Le σ υ/\Inv H υ/\υ.mm=σ.mm.push n i/\υ.nd ((σ.len+1:Nat):Int)=cY n σ.cl/\υ.way ((σ.len+1:Nat):Int)=w/\υ.gb ((σ.len+1:Nat):Int)=g:=by
 have e:=Xa σ n i w g (Mz n.kind ((σ.len+1:Nat):Int))
 have l:=e.le
 have hnd:=y6 σ n i w g (Mz n.kind ((σ.len+1:Nat):Int))
 have hway:=sb σ n i w g (Mz n.kind ((σ.len+1:Nat):Int))
 have hgb:=zf σ n i w g (Mz n.kind ((σ.len+1:Nat):Int))
 have hct:=aAR σ n i w g (Mz n.kind ((σ.len+1:Nat):Int))
 have hlen:=W7 σ n i w g (Mz n.kind ((σ.len+1:Nat):Int))
 have hce:=λ h=>zg σ (n:=n) i w g (Mz n.kind ((σ.len+1:Nat):Int)) h
 have hc0:=λ h=>ru σ (n:=n) i w g (Mz n.kind ((σ.len+1:Nat):Int)) h
 have hpush:(σ.add n i w g (Mz n.kind ((σ.len+1:Nat):Int))).mm=σ.mm.push n i:=rfl
 generalize hυ:σ.add n i w g (Mz n.kind ((σ.len+1:Nat):Int))=υ at *
 have hgen:υ.mm.gen=σ.mm.gen:=by rw[hpush];rfl
 have hcl:υ.cl<=σ.cl+1:=by
  by_cases hk:n.kind=2∨n.kind=3∨n.kind=5∨n.kind=6∨n.kind=8
  ·rw[(hce hk).1];exact Nat.le_refl _
  ·rw[hc0 hk];omega
 have hcl2:(n.kind=2∨n.kind=3∨n.kind=5∨n.kind=6∨n.kind=8)->((σ.cl+1:Nat):Int)=((σ.mm.cs.length+1:Nat):Int):=λ _=>rfl
 have hnd':NdI H υ ((σ.len+1:Nat):Int):=by
  refine⟨by rw[hnd];exact hn.ok.1,by rw[hnd,hgen];exact hn.ok.2.1,?_,λ k=>?_,λ k=>?_,λ k=>?_,λ k=>?_,λ k=>?_,λ k=>?_,λ k=>?_⟩
  ·rw[hnd,hlen]
   have hb:=hn.bd
   by_cases hk:n.kind=2∨n.kind=3∨n.kind=5∨n.kind=6∨n.kind=8
   ·rw[(hce hk).1];exact hb
   ·rw[hc0 hk]
    refine⟨hb.bK,hb.exp,hb.new,hb.br,?_,?_,?_,hb.bm,hb.hash⟩
    ·show(if n.kind=2 then _ else(0:Int))<=_;rw[if_neg (by omega)];exact bL _
    ·show(if n.kind=3∨n.kind=5∨n.kind=6 then _ else(0:Int))<=_;rw[if_neg (by omega)];exact bL _
    ·show(if n.kind=8 then _ else(0:Int))<=_;rw[if_neg (by omega)];exact bL _
  all_goals rw[hnd] at k ⊢
  all_goals rw[Y5] at k
  ·rw[hway]
   refine⟨hn.k2 k,?_⟩
   rw[show(cY n σ.cl).main=((σ.cl+1:Nat):Int) from if_pos k,hct]
   exact⟨by omega,if_pos k⟩
  ·rw[hway,hgb]
   obtain⟨h1,h2,h3⟩:=hn.k3 k
   rw[show(cY n σ.cl).prev=((σ.cl+1:Nat):Int) from if_pos (.inl k),hct]
   refine⟨h1,λ k' b hb=>(h2 k' b hb).up l,λ h0=>⟨(h3 h0).1,λ b hb=>?_⟩,by omega,?_⟩
   ·have:=(h3 h0).2 b hb
    rw[l.nd (dG (N:=σ.mm.nodes) (i:=b) (by rw[this];decide)).2];exact this
   ·unfold Mz;rw[if_neg (by omega),if_neg (by omega)]
  ·exact hn.k4 k
  ·rw[hway]
   obtain⟨h1,h2,h3,h4⟩:=hn.k5 k
   rw[show(cY n σ.cl).prev=((σ.cl+1:Nat):Int) from if_pos (.inr (.inl k)),hct]
   refine⟨h1,h2,h3,h4,by omega,?_⟩
   unfold Mz;rw[if_neg (by omega),if_neg (by omega)]
  ·rw[hway]
   obtain⟨h1,h2,h3⟩:=hn.k6 k
   rw[show(cY n σ.cl).prev=((σ.cl+1:Nat):Int) from if_pos (.inr (.inr k)),hct]
   refine⟨h1,h2,h3,by omega,?_⟩
   unfold Mz;rw[if_neg (by omega),if_neg (by omega)]
  ·have:=hn.k7 k
   show bV (υ.nd n.bK)
   rw[l.nd (iD this).2];exact this
  ·obtain⟨h1,h2⟩:=hn.k8 k
   rw[show(cY n σ.cl).status=((σ.cl+1:Nat):Int) from if_pos k,hct]
   refine⟨h1.up l,h2.up l,by omega,?_⟩
   unfold Mz;rw[if_neg (by omega),if_pos k]
 refine⟨υ,l,?_,hpush,hnd,hway,hgb⟩
 rw[<- hυ]
 refine um h hn.ok hi.ins (by rw[hυ];exact hnd') (λ hc=>?_) (by rw[hυ];exact hcl)
 rw[hυ] at hc ⊢
 have hk:n.kind=2∨n.kind=3∨n.kind=5∨n.kind=6∨n.kind=8:=Classical.byContradiction λ hk=>by have:=hc0 hk;omega
 have hv:=(hce hk).2
 refine⟨by rw[hv];exact hi.ins.1,by rw[hv,hlen];have:=hi.ins.2;omega,λ i' k=>?_,λ m k=>?_,λ d k=>?_,λ k=>?_,λ k=>?_⟩<;>rw[hct] at k<;>rw[hv]
 ·unfold Mz at k
  split at k
  ·rename_i h2
   cases k
   rw[hnd,hway]
   exact⟨h2,(hi.k2 h2).up l⟩
  ·split at k<;>cases k
 ·unfold Mz at k
  split at k
  ·cases k
  ·split at k
   ·cases k
   ·cases k
    have hm:bV n:=by unfold bV;omega
    rw[hnd]
    refine⟨hm,?_⟩
    rcases hi.kp hm with h1|⟨h1,h2⟩
    ·exact .inl h1
    ·exact .inr (.inl ⟨by rw[hway,hgb];exact h1.up l,bB.up h h1.1 h2 l⟩)
 ·unfold Mz at k
  split at k
  ·cases k
  ·split at k
   ·rename_i h8
    exact .inl (hi.k8 h8)
   ·cases k
 ·unfold Mz at k
  split at k
  ·cases k
  ·split at k<;>cases k
 ·unfold Mz at k
  split at k
  ·cases k
  ·split at k<;>cases k
end
end
section
theorem dJ{a b:Int}{p:Prop}(k:a=b)(h:a≠b:=by decide):p:=absurd k h
theorem ph{gen h u:Int}{k:ByteArray}{n c:Nat}(hg:0<=gen)(hk:k.size<=64):nC gen n (cY (({Nd.zero with kind:=5,hash:=h,key:=k,val:=u}:Nd).c [] []) c).dv :=
 ⟨⟨by simp[sQ,Nd.own,Nd.jZ,Nd.jH,Nd.zero,cY,Nd.c,Nv.dv,Nv.nd],by simp[cY,Nd.c,Nv.dv,Nv.nd,Nd.zero],by simp[cY,Nd.c,Nv.dv,Nv.nd,Nd.zero];omega,by simp[cY,Nd.c,Nv.dv,Nv.nd,Nd.zero],.inr (.inr (.inr (.inl ⟨.inr rfl,hk⟩)))⟩,hg,λ i hi=>by simp[cY,Nd.c,Nv.dv] at hi,fW,fW,fW⟩
theorem qf{gen p:Int}{n c:Nat}(hg:0<=gen)(h1:1<=p)(h2:p<=n):nC gen n (cY (yP p) c).dv :=
 ⟨⟨by simp[sQ,Nd.own,Nd.jZ,Nd.jH,Nd.zero,cY,Nd.c,Nv.dv,Nv.nd,yP],by simp[cY,Nd.c,Nv.dv,Nv.nd,Nd.zero,yP],by simp[cY,Nd.c,Nv.dv,Nv.nd,Nd.zero,yP],by simp[cY,Nd.c,Nv.dv,Nv.nd,Nd.zero,yP],.inr (.inr (.inr (.inr (.inr (.inr ⟨rfl,h1⟩)))))⟩,hg,λ i hi=>by simp[cY,Nd.c,Nv.dv,yP] at hi,⟨by show 0<=p;omega,h2⟩,fW,fW⟩
theorem o4{gen a b d:Int}{n c:Nat}(hg:0<=gen)(a1:1<=a)(a2:a<=n)(b1:1<=b)(b2:b<=n)(d1:1<=d)(d2:d<=n):nC gen n (cY (D5 a b d) c).dv :=
 ⟨⟨by simp[sQ,Nd.own,Nd.jZ,Nd.jH,Nd.zero,cY,Nd.c,Nv.dv,Nv.nd,D5],by simp[cY,Nd.c,Nv.dv,Nv.nd,Nd.zero,D5],by simp[cY,Nd.c,Nv.dv,Nv.nd,Nd.zero,D5],by simp[cY,Nd.c,Nv.dv,Nv.nd,Nd.zero,D5];omega,.inr (.inr (.inr (.inr (.inr (.inl ⟨rfl,b1,d1,a1⟩)))))⟩,hg,λ i hi=>by simp[cY,Nd.c,Nv.dv,D5] at hi,⟨by show 0<=a;omega,a2⟩,⟨by show 0<=b;omega,b2⟩,⟨by show 0<=d;omega,d2⟩⟩
theorem zN{n:Nv}{N c:Nat}(h1:n.bK<=N)(h2:n.exp<=N)(h3:n.new<=N)(h4:∀r∈n.xs,r<=N)(hb:∃b:Nat,n.bm=(b:Int)/\b<18446744073709551616)(hh:∃b:Nat,n.hash=(b:Int)/\b<18446744073709551616):mC N (c+1) (cY n c) :=
 ⟨h1,h2,h3,h4,by show(if n.kind=2 then((c+1:Nat):Int) else 0)<=((c+1:Nat):Int);split<;>omega,by show(if n.kind=3∨n.kind=5∨n.kind=6 then((c+1:Nat):Int) else 0)<=((c+1:Nat):Int);split<;>omega,by show(if n.kind=8 then((c+1:Nat):Int) else 0)<=((c+1:Nat):Int);split<;>omega,hb,hh⟩
theorem jN:∃b:Nat,(0:Int)=(b:Int)/\b<18446744073709551616:=⟨0,rfl,by decide⟩
section
variable{H:ByteArray->Nat}{σ τ υ:Kw}{r:Int}{w:List Nat}
theorem j1{p g:Int}(h:Inv H σ)(hp:bV (σ.nd p)):kS H σ (yP p) w g:=by
 have hr:1<=p/\p<=σ.len:=iD hp
 exact⟨.inr (.inr (.inr (.inr (.inr (.inl rfl))))),qf h.gen hr.1 (by have:=hr.2;omega),zN (by show p<=_;have:=hr.2;omega) (bL _) (bL _) (λ r hr=>nomatch hr) jN jN,
  λ k=>dJ (a:=7) (b:=2) k,λ k=>dJ (a:=7) (b:=3) k,λ k=>dJ (a:=7) (b:=4) k,λ k=>dJ (a:=7) (b:=5) k,λ k=>dJ (a:=7) (b:=6) k,λ _=>hp,λ k=>dJ (a:=7) (b:=8) k⟩
theorem B7{g g':Int}(hw:w.length<=11)(h1:1<=g')(h2:g'<=σ.mm.gen):kS H σ (nI g') w g :=
 ⟨.inl rfl,fq h2 h1,zN (bL _) (bL _) (bL _) (λ r hr=>nomatch hr) jN jN,
  λ _=>hw,λ k=>dJ (a:=2) (b:=3) k,λ k=>dJ (a:=2) (b:=4) k,λ k=>dJ (a:=2) (b:=5) k,λ k=>dJ (a:=2) (b:=6) k,λ k=>dJ (a:=2) (b:=7) k,λ k=>dJ (a:=2) (b:=8) k⟩
theorem fy{a b d g:Int}(h:Inv H σ)(ha:uJ σ a [])(hb1:1<=b)(hb2:b<=σ.len)(hd:uJ σ d []):kS H σ (D5 a b d) w g:=by
 have h1:=ha.in
 have h2:=hd.in
 exact⟨.inr (.inr (.inr (.inr (.inr (.inr rfl))))),o4 h.gen h1.1 (by omega) hb1 (by omega) h2.1 (by omega),zN (by show a<=_;omega) (by show b<=_;omega) (by show d<=_;omega) (λ r hr=>nomatch hr) jN jN,
  λ k=>dJ (a:=8) (b:=2) k,λ k=>dJ (a:=8) (b:=3) k,λ k=>dJ (a:=8) (b:=4) k,λ k=>dJ (a:=8) (b:=5) k,λ k=>dJ (a:=8) (b:=6) k,λ k=>dJ (a:=8) (b:=7) k,λ _=>⟨ha,hd⟩⟩
theorem Aj{h:Nat}{k:ByteArray}{u g:Int}(i:Inv H σ)(hk:k.size<=64)(hh:H k=h)(hl:h<18446744073709551616):kS H σ (Fa h k u) w g :=
 ⟨.inr (.inr (.inl rfl)),X7 i.gen hk,zN (bL _) (bL _) (bL _) (λ r hr=>nomatch hr) jN ⟨h,rfl,hl⟩,
  λ k=>dJ (a:=4) (b:=2) k,λ k=>dJ (a:=4) (b:=3) k,λ _=>hh,λ k=>dJ (a:=4) (b:=5) k,λ k=>dJ (a:=4) (b:=6) k,λ k=>dJ (a:=4) (b:=7) k,λ k=>dJ (a:=4) (b:=8) k⟩
def jr(h:Int)(k:ByteArray)(u:Int):Nv:=({Nd.zero with kind:=5,hash:=h,key:=k,val:=u}:Nd).c [] []
theorem Hi{h:Nat}{k:ByteArray}{u g:Int}(i:Inv H σ)(hk:k.size<=64)(hh:H k=h)(hl:h<18446744073709551616)(w0:0<w.length)(w1:w.length<=11)(hu:iL h w):kS H σ (jr h k u) w g :=
 ⟨.inr (.inr (.inr (.inl rfl))),ph i.gen hk,zN (bL _) (bL _) (bL _) (λ r hr=>nomatch hr) jN ⟨h,rfl,hl⟩,
  λ k=>dJ (a:=5) (b:=2) k,λ k=>dJ (a:=5) (b:=3) k,λ k=>dJ (a:=5) (b:=4) k,λ _=>⟨w0,w1,hh,hu⟩,λ k=>dJ (a:=5) (b:=6) k,λ k=>dJ (a:=5) (b:=7) k,λ k=>dJ (a:=5) (b:=8) k⟩
def Vu(h:Int)(ys:List Pr):Nv:=({Nd.zero with kind:=6,hash:=h}:Nd).c [] ys
theorem Io{h:Nat}{ys:List Pr}{g:Int}(i:Inv H σ)(h2:2<=ys.length)(ha:w6 ys)(hs:Hs ys)(hh:∀p∈ys,H p.1=h)(hl:h<18446744073709551616)(w1:w.length=11)(hu:iL h w):kS H σ (Vu h ys) w g :=
 ⟨.inr (.inr (.inr (.inr (.inl rfl)))),rj i.gen h2 ha hs,zN (bL _) (bL _) (bL _) (λ r hr=>nomatch hr) jN ⟨h,rfl,hl⟩,
  λ k=>dJ (a:=6) (b:=2) k,λ k=>dJ (a:=6) (b:=3) k,λ k=>dJ (a:=6) (b:=4) k,λ k=>dJ (a:=6) (b:=5) k,λ _=>⟨w1,hu,hh⟩,λ k=>dJ (a:=6) (b:=7) k,λ k=>dJ (a:=6) (b:=8) k⟩
theorem Vx{m:Nat->Option Int}{x:Int}:∀{k:Nat},x∈qK m k->∃j,j<k/\m j=some x
 | 0,h=>nomatch h
 | k+1,h=>by
  simp only[qK,List.mem_append,Option.mem_toList] at h
  rcases h with h|h
  ·obtain⟨j,h1,h2⟩:=Vx h
   exact⟨j,by omega,h2⟩
  ·exact⟨k,Nat.lt_succ_self k,h⟩
theorem M2{b:Nat}{xs:List Int}(h:BV b xs){x:Int}(hx:x∈xs):∃j,j<64/\qS b xs j=some x:=by
 rw[<- (S7 h).2] at hx
 exact Vx hx
theorem Vt{b:Nat}{xs:List Int}(h:BV b xs){k:Nat}(hk:k<64){x:Int}(hx:qS b xs k=some x):x∈xs:=by
 unfold qS at hx
 split at hx
 ·rename_i hb
  cases hx
  exact Cp (by rw[h.len];exact pD hk hb)
 ·cases hx
theorem zr{v:Nv}{k:Nat}(hk:64<=k):lI v (k:Int)=none:=by
 unfold lI Mk
 rw[W3 _ (by omega)]
 simp
theorem L3{v:Nv}(hcv:CV v.nd v.xs v.ys){k:Nat}(hk:k<64):lI v (k:Int)=qS v.bm.toNat v.xs k:=Wj hcv hk
theorem M5.le{g g' b:Int}(h:M5 σ w g b)(hg:g<=g'):M5 σ w g' b:=by
 rcases h with h|h
 ·exact .inl h
 ·exact .inr ⟨h.1,h.2.1,Int.le_trans h.2.2 hg⟩
theorem M5.in{g b:Int}(h:M5 σ w g b):1<=b/\b<=σ.len:=by
 rcases h with h|h<;>exact dG (N:=σ.mm.nodes) (i:=b) (by rw[h.1];decide)
theorem nN{b:Nat}{xs:List Int}{g:Int}(i:Inv H σ)(hb:BV b xs)(hx:∀k:Nat,k<64->∀r,qS b xs k=some r->M5 σ (w++[k]) g r)(hw:w.length<=10)(h0:0<w.length->xs≠[]/\∀b,xs=[b]->(σ.nd b).kind=2):kS H σ (Dy b xs) w g:=by
 have hr:∀r∈xs,1<=r/\r<=σ.len:=λ r hr=>by
  obtain⟨j,h1,h2⟩:=M2 hb hr
  exact(hx j h1 r h2).in
 have hok:nC σ.mm.gen (σ.len+1) (cY (Dy b xs) σ.cl).dv:=m7 i.gen hb (λ r h=>by have:=(hr r h).2;omega)
 refine⟨.inr (.inl rfl),hok,zN (bL _) (bL _) (bL _) (λ r h=>by have:=(hr r h).2;omega) ⟨b,rfl,hb.lt⟩ jN,
  λ k=>dJ (a:=3) (b:=2) k,λ _=>⟨hw,λ k r hk=>?_,h0⟩,λ k=>dJ (a:=3) (b:=4) k,λ k=>dJ (a:=3) (b:=5) k,λ k=>dJ (a:=3) (b:=6) k,λ k=>dJ (a:=3) (b:=7) k,λ k=>dJ (a:=3) (b:=8) k⟩
 by_cases h64:k<64
 ·rw[L3 (v:=cY (Dy b xs) σ.cl) ⟨rfl,hok.1⟩ h64] at hk
  exact hx k h64 r hk
 ·rw[zr (by omega)] at hk
  cases hk
structure nF(σ:Kw)(m:Int)(w:List Nat)(g:Int)(b:Nat)(xs:List Int):Prop where
 kd:(σ.nd m).kind=3
 bm:(σ.nd m).bm.toNat=b
 el:(σ.nd m).xs=xs
 cv:CV (σ.nd m).nd (σ.nd m).xs (σ.nd m).ys
 bv:BV b xs
 wl:w.length<=10
 br:∀k:Nat,k<64->∀r,qS b xs k=some r->M5 σ (w++[k]) g r
 ne:0<w.length->xs≠[]/\∀b,xs=[b]->(σ.nd b).kind=2
theorem oW.sF{m g:Int}(i:Inv H σ)(h:oW σ m w g)(k:(σ.nd m).kind=3):nF σ m w g (σ.nd m).bm.toNat (σ.nd m).xs:=by
 have hr:=h.in
 have hn:=i.nd m hr.1 hr.2
 obtain⟨h1,h2,h3,_⟩:=hn.k3 k
 have hcv:CV (σ.nd m).nd (σ.nd m).xs (σ.nd m).ys:=⟨k,hn.valid⟩
 obtain⟨b,hb1,hb2⟩:=hn.bd.bm
 have hb:(σ.nd m).bm.toNat=b:=by omega
 rw[h.2.1] at h1 h2 h3
 refine⟨k,rfl,rfl,hcv,by rw[hb];exact hcv.bv hb1 hb2,h1,λ k' hk r hr=>?_,h3⟩
 exact(h2 k' r (by rw[L3 hcv hk];exact hr)).le h.2.2
theorem nF.lk{m g:Int}{b:Nat}{xs:List Int}(h:nF σ m w g b xs){k:Nat}(hk:k<64):lI (σ.nd m) (k:Int)=qS b xs k:=by rw[L3 h.cv hk,h.bm,h.el]
theorem nF.up{m g r:Int}{b:Nat}{xs:List Int}(h:nF σ m w g b xs){k:Nat}(hk:k<64){o:Int}(ho:lI (σ.nd m) (k:Int)=some o)(hr:1<=r):Ue (σ.nd m) (k:Int) r=Dy b (qU xs (gC b k) r)/\BV b (qU xs (gC b k) r)/\(∀j,j<64->qS b (qU xs (gC b k) r) j=Kz (qS b xs) k (some r) j)/\gC b k<xs.length:=by
 rw[h.lk hk] at ho
 have hb:b.testBit k=true:=by unfold qS at ho;split at ho;assumption;cases ho
 have hu:=Uw h.bv hk hb hr
 refine⟨?_,hu.1,hu.2,by rw[h.bv.len];exact pD hk hb⟩
 unfold Ue oo
 rw[if_pos ⟨h.cv,hr,by rw[h.bm,qQ b hk];exact hb⟩,h.bm,h.el,oS b hk]
 rfl
theorem nF.ins{m g r:Int}{b:Nat}{xs:List Int}(h:nF σ m w g b xs){k:Nat}(hk:k<64)(ho:lI (σ.nd m) (k:Int)=none)(hr:1<=r):zx (σ.nd m) (k:Int) r=Dy (b ||| 2^k) (xI xs (gC b k) r)/\BV (b ||| 2^k) (xI xs (gC b k) r)/\(∀j,j<64->qS (b ||| 2^k) (xI xs (gC b k) r) j=Kz (qS b xs) k (some r) j)/\(xI xs (gC b k) r).length=xs.length+1:=by
 rw[h.lk hk] at ho
 have hb:b.testBit k=false:=by
  unfold qS at ho
  cases hb:b.testBit k with
  | false=>rfl
  | true=>rw[hb] at ho;simp at ho
 have hu:=Hn h.bv hk hb hr
 refine⟨?_,hu.1,hu.2,Fz (by rw[h.bv.len];have:=wN b k (64-k);rwa [show k+(64-k)=64 by omega] at this) r⟩
 unfold zx oh
 rw[if_pos ⟨h.cv,⟨by omega,by omega⟩,hr,by rw[h.bm,qQ b hk];exact hb⟩,h.bm,h.el,oS b hk,pN b hk]
 rfl
theorem nF.re{m g:Int}{b:Nat}{xs:List Int}(h:nF σ m w g b xs){k:Nat}(hk:k<64){o:Int}(ho:lI (σ.nd m) (k:Int)=some o):N4 (σ.nd m) (k:Int)=Dy (b ^^^ (b &&& 2^k)) (sJ xs (gC b k))/\BV (b ^^^ (b &&& 2^k)) (sJ xs (gC b k))/\(∀j,j<64->qS (b ^^^ (b &&& 2^k)) (sJ xs (gC b k)) j=Kz (qS b xs) k none j)/\(sJ xs (gC b k)).length+1=xs.length:=by
 rw[h.lk hk] at ho
 have hb:b.testBit k=true:=by unfold qS at ho;split at ho;assumption;cases ho
 have hu:=Tv h.bv hk hb
 refine⟨?_,hu.1,hu.2,H9 (by rw[h.bv.len];exact pD hk hb)⟩
 unfold N4 oi
 rw[if_pos ⟨h.cv,by rw[h.bm,qQ b hk];exact hb⟩,h.bm,h.el,oS b hk,tM b hk]
 rfl
end
end
end Go.Proofs.YtbajmaoegmbfgaaGreat
