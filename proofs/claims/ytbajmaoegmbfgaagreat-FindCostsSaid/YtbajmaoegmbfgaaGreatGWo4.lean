/- Merged. -/
import Derived.Test.YtbajmaoegmbfgaaGreatGWo1
import Derived.Test.YtbajmaoegmbfgaaGreatLf
import Derived.Test.YtbajmaoegmbfgaaGreatGEx18
import Derived.Test.YtbajmaoegmbfgaaGreatGBr5
import Derived.Test.YtbajmaoegmbfgaaGreatGAr9
import Derived.Test.YtbajmaoegmbfgaaGreatGBit2
import Derived.Test.YtbajmaoegmbfgaaGreatGRn1
set_option linter.unusedSimpArgs false
set_option linter.unusedVariables false
namespace Go.Proofs.YtbajmaoegmbfgaaGreat
section
open Go Go.RowKit Go.Ct
theorem aBm{ts:List dV}{j:Nat}(h:j<ts.length):((vQ ts).drop (2*j)).take 2=[.int .i64 (ts.getD j ⟨0,false⟩).root,.bool (ts.getD j ⟨0,false⟩).ro]:=by
 induction ts generalizing j with
 | nil=>simp at h
 | cons t ts ih=>
  cases j with
  | zero=>simp[vQ]
  | succ j=>have:=ih (j:=j) (by simpa using h);rw[show 2*(j+1)=2*j+1+1 by omega];simpa[vQ] using this
section
variable{P:Program}{S:List (Nat×Value)}{d:Nat}{ty t t' e:TypeId}{pos:String}{af:Array Edge}{gd:Option (Nat×Bool)}{x y:Operand}{w0 w:World}{M:List Nat}{H:List (Nat×Obj)}{A F:Fr}{O:List Ow}{a:Option Addr}
theorem ow{ts:List dV}{q:Nat}(hx:ev S x=.pointer (some ⟨dE a,eH a+2*q,none⟩))(ht:jO P t 2=true)(hf:rO A F O a (vQ ts))(hq:q<ts.length) :
  aL P S (SF w0 M H A F O) ⟨some d,.load t x,ty,pos,af,gd⟩ (.agg ⟨[.int .i64 (ts.getD q ⟨0,false⟩).root,.bool (ts.getD q ⟨0,false⟩).ro]⟩):=Rw hx ht hf (aBm hq) rfl
end
structure Fe where
 key:ByteArray
 val:Int
 exp:Int
 Jh:Int
 only:Bool
 t:dV
 pos:Nat
def Fe.cl(q:Fe)(kind mask:Int):Cl:=⟨kind,q.t,0,0,0,0,0,mask,q.key,q.val,q.exp,q.Jh,q.only⟩
def wrK(kind:Int):Prop:=kind=8∨kind=9∨kind=12∨kind=4
structure Qz(kind:Int)(ts:List dV)(q:Fe):Prop where
 ky:q.key∈kC
 mem:q.t∈ts
 ro:wrK kind->q.t.ro=false
theorem qM{v:Nat}(h:v<8):kC.getD v ⟨#[]⟩∈kC:=by
 have:v=0∨v=1∨v=2∨v=3∨v=4∨v=5∨v=6∨v=7:=by omega
 rcases this with rfl|rfl|rfl|rfl|rfl|rfl|rfl|rfl<;>simp[kC]
theorem Si{ts:List dV}{j:Nat}(h:j<ts.length):ts.getD j ⟨0,false⟩∈ts:=by rw[jA,List.getElem?_eq_getElem h];exact List.getElem_mem h
section
variable{P:Program}{S:List (Nat×Value)}{G:World->Prop}{d:Nat}{ty t t':TypeId}{pos:String}{af:Array Edge}{gd:Option (Nat×Bool)}{x y:Operand}
theorem cp{a b:Nat}(hx:ev S x=.int .i64 ((a:Nat):Int))(hy:ev S y=.int .i64 ((b:Nat):Int))(h0:b≠0):aL P S G ⟨some d,.binOp .rem t x y t',ty,pos,af,gd⟩ (.int .i64 ((a%b:Nat):Int)):=by have:=q0 (P:=P) (G:=G) (d:=d) (ty:=ty) (pos:=pos) (af:=af) (gd:=gd) (t:=t) (t':=t') hx hy (by omega);rwa [Int.tmod_eq_emod_of_nonneg (by omega),<- Int.natCast_emod] at this
end
section
variable{bw bm tb:Nat}{D:List Nat}{A:Fr}{w:World}{mask:Int}{ts:List dV}{pt pe:Option Addr}{kt ke ne:Nat}{l:List Int}{a:Option Addr}{c p:Nat}
set_option maxRecDepth 100000 in
set_option maxHeartbeats 2000000 in
theorem Yd(kind:Int)(hkd:7<=kind/\kind<=12)(hl:l.length<=17592186043904)(h0:0<ts.length)(hts:ts.length<=1000)(hr0:(ts.getD 0 ⟨0,false⟩).ro=false)
  (hs:SF w D [(tb,S3 a l c p),(bw,pI bm mask pt ts.length kt pe ne ke)] [(a,aH l)] [] [⟨pt,vQ ts,kt,29,2⟩] w) :
  Calls Tryz.prog 54 #[.pointer (some ⟨bw,0,none⟩),.int .i64 kind,.pointer (some ⟨tb,0,none⟩)] w λ e w'=>∃q:Fe,e=.returned (.agg ⟨S5 (q.cl kind mask)⟩)/\Qz kind ts q /\
   SF w D [(tb,S3 a l c q.pos),(bw,pI bm mask pt ts.length kt pe ne ke)] [] [] [⟨pt,vQ ts,kt,29,2⟩] w':=by
 refine enter Tryz.func54 Tryz.ntmps54 rfl rfl hs ?_;simp only[cC];refine J0 ?_;refine aJ (λ x6=>?_);refine S8 ?_;refine eY [7,12,13,14,15,16,17,18,19,20,21,22,23,24,25,26,27,28,29,30] (λ y:Nat×Fe=>[(7,.pointer (some ⟨y.1,0,none⟩))]) (λ y=>y.2.key∈kC) (λ y=>[(y.1,.cells ⟨S5 (y.2.cl kind mask)⟩ 89 (0,0)),(x6,.cells ⟨S5 ⟨0,⟨0,false⟩,0,0,0,0,0,0,⟨#[]⟩,0,0,0,false⟩⟩ 89 (0,0)),(tb,S3 a l c y.2.pos),(bw,pI bm mask pt ts.length kt pe ne ke)]) (λ _=>[]) (λ _=>[⟨pt,vQ ts,kt,29,2⟩]) (by decide) (λ _=>by exact rfl) ?_ (λ y f hx=>?_)
 ·refine hY (.one 0 [] (.one 1 [] (.one 2 [] (.one 3 [] (.one 4 [] (.one 5 [] (.one 7 [] (.one 10 [] (.one 13 [] (.one 15 [] (.two 6 [4] (.two 8 [4] (.one 9 [] (.two 11 [4] (.one 12 [] (.two 14 [4] (.two 16 [4] (.one 17 [] (.one 18 [] (.one 19 [4] (.one 20 [] .nil)))) 0 [] (.two 19 [4] (.one 16 [4] (.one 17 [] (.one 18 [] (.one 20 [] .nil)))) 0 [] .nil)) 0 [] (.two 19 [4] (.one 14 [4] (.one 16 [4] (.one 17 [] (.one 18 [] (.one 20 [] .nil))))) 0 [] .nil))) 0 [] (.two 19 [4] (.one 11 [4] (.one 12 [] (.one 14 [4] (.one 16 [4] (.one 17 [] (.one 18 [] (.one 20 [] .nil))))))) 0 [] .nil))) 0 [] (.two 19 [4] (.one 8 [4] (.one 9 [] (.one 11 [4] (.one 12 [] (.one 14 [4] (.one 16 [4] (.one 17 [] (.one 18 [] (.one 20 [] .nil))))))))) 0 [] .nil)) 0 [] (.two 19 [4] (.one 6 [4] (.one 8 [4] (.one 9 [] (.one 11 [4] (.one 12 [] (.one 14 [4] (.one 16 [4] (.one 17 [] (.one 18 [] (.one 20 [] .nil)))))))))) 0 [] .nil)))))))))))) ?_;refine cg ?_;refine iR ?_;refine iR ?_;refine aT ?_;refine gU (E:=[6,19]) (by decide +kernel) ((.cons ?_ (.cons ?_ .nil)))
  ·refine pL (i:=6) (hq:=(zL (hc:=λ w1 hw=>aAb (hw.tape cY fin hl)))) (h:=λ x18 h18=>?_);refine gU (E:=[8,19]) (by decide +kernel) ((.cons ?_ (.cons ?_ .nil)))
   ·refine pL (i:=8) (hq:=(zL (hc:=λ w1 hw=>fN 6 (hw.tape cY fin hl) (by decide) (by decide)))) (h:=λ x20 h20=>?_);refine nN ?_;refine gU (E:=[11,19]) (by decide +kernel) ((.cons ?_ (.cons ?_ .nil)))
    ·refine pL (i:=11) (hq:=(zL (hc:=λ w1 hw=>fN 6 (hw.tape cY fin hl) (by decide) (by decide)))) (h:=λ x23 h23=>?_);refine nN ?_;refine gU (E:=[14,19]) (by decide +kernel) ((.cons ?_ (.cons ?_ .nil)))
     ·refine pL (i:=14) (hq:=(zL (hc:=λ w1 hw=>fN 4 (hw.tape cY fin hl) (by decide) (by decide)))) (h:=λ x26 h26=>?_);refine gU (E:=[16,19]) (by decide +kernel) ((.cons ?_ (.cons ?_ .nil)));·refine pL (i:=16) (hq:=(zL (hc:=λ w1 hw=>fN 3 (hw.tape cY fin hl) (by decide) (by decide)))) (h:=λ x28 h28=>?_);refine oW ?_;refine iI ?_;refine iQ (h:=λ x7=>?_);refine K0f ?_;·exact qM h18.1
      ·refine iS (i:=19) (h:=λ x7=>?_);refine bK (i:=16) (hq:=(zL (hc:=λ w1 hw=>fN 3 (hw.tape cY fin hl) (by decide) (by decide)))) (h:=λ x28 h28=>?_);refine oW ?_;refine iI ?_;refine K0f ?_;·exact qM h18.1
     ·refine iS (i:=19) (h:=λ x7=>?_);refine bK (i:=14) (hq:=(zL (hc:=λ w1 hw=>fN 4 (hw.tape cY fin hl) (by decide) (by decide)))) (h:=λ x26 h26=>?_);refine bK (i:=16) (hq:=(zL (hc:=λ w1 hw=>fN 3 (hw.tape cY fin hl) (by decide) (by decide)))) (h:=λ x28 h28=>?_);refine oW ?_;refine iI ?_;refine K0f ?_;·exact qM h18.1
    ·refine iS (i:=19) (h:=λ x7=>?_);refine bK (i:=11) (hq:=(zL (hc:=λ w1 hw=>fN 6 (hw.tape cY fin hl) (by decide) (by decide)))) (h:=λ x23 h23=>?_);refine nN ?_;refine bK (i:=14) (hq:=(zL (hc:=λ w1 hw=>fN 4 (hw.tape cY fin hl) (by decide) (by decide)))) (h:=λ x26 h26=>?_);refine bK (i:=16) (hq:=(zL (hc:=λ w1 hw=>fN 3 (hw.tape cY fin hl) (by decide) (by decide)))) (h:=λ x28 h28=>?_);refine oW ?_;refine iI ?_;refine K0f ?_;·exact qM h18.1
   ·refine iS (i:=19) (h:=λ x7=>?_);refine bK (i:=8) (hq:=(zL (hc:=λ w1 hw=>fN 6 (hw.tape cY fin hl) (by decide) (by decide)))) (h:=λ x20 h20=>?_);refine nN ?_;refine bK (i:=11) (hq:=(zL (hc:=λ w1 hw=>fN 6 (hw.tape cY fin hl) (by decide) (by decide)))) (h:=λ x23 h23=>?_);refine nN ?_;refine bK (i:=14) (hq:=(zL (hc:=λ w1 hw=>fN 4 (hw.tape cY fin hl) (by decide) (by decide)))) (h:=λ x26 h26=>?_);refine bK (i:=16) (hq:=(zL (hc:=λ w1 hw=>fN 3 (hw.tape cY fin hl) (by decide) (by decide)))) (h:=λ x28 h28=>?_);refine oW ?_;refine iI ?_;refine K0f ?_;·exact qM h18.1
  ·refine iS (i:=19) (h:=λ x7=>?_);refine bK (i:=6) (hq:=(zL (hc:=λ w1 hw=>aAb (hw.tape cY fin hl)))) (h:=λ x18 h18=>?_);refine bK (i:=8) (hq:=(zL (hc:=λ w1 hw=>fN 6 (hw.tape cY fin hl) (by decide) (by decide)))) (h:=λ x20 h20=>?_);refine nN ?_;refine bK (i:=11) (hq:=(zL (hc:=λ w1 hw=>fN 6 (hw.tape cY fin hl) (by decide) (by decide)))) (h:=λ x23 h23=>?_);refine nN ?_;refine bK (i:=14) (hq:=(zL (hc:=λ w1 hw=>fN 4 (hw.tape cY fin hl) (by decide) (by decide)))) (h:=λ x26 h26=>?_);refine bK (i:=16) (hq:=(zL (hc:=λ w1 hw=>fN 3 (hw.tape cY fin hl) (by decide) (by decide)))) (h:=λ x28 h28=>?_);refine oW ?_;refine iI ?_;refine K0f ?_;·exact qM h18.1
 refine K0a ?_;have hy:=hx;refine J2 ?_;refine mC ?_;refine aA ?_;(refine eF 33 (λ g33=>?_) (λ g33=>?_)<;>(try (exfalso;omega))<;>((refine Ka3 ?_)));((refine aF ?_;refine mC ?_));refine cH ?_;refine Ka4 ?_;refine mC ?_;refine aA ?_;(refine eF 39 (λ g39=>?_) (λ g39=>?_)<;>refine Ka0 ?_);all_goals ((first|refine aI ?_|(refine aF ?_;refine mC ?_));refine Kb9 ?_)
 all_goals (first|refine aI ?_|(refine eF 43 (λ g43=>?_) (λ g43=>?_)<;>refine Ka0 ?_))
 all_goals ((first|refine aI ?_|(refine aF ?_;refine mC ?_));refine Kb9 ?_)
 all_goals (first|refine aI ?_|(refine eF 47 (λ g47=>?_) (λ g47=>?_)<;>refine Ka0 ?_))
 all_goals ((first|refine aI ?_|(refine aF ?_;refine mC ?_));refine cH ?_;refine zO ?_;refine dM ?_;refine Sx ?_;refine aD (zL (hc:=λ w1 hw=>fN ts.length (hw.tape cY fin hl) (by omega) (by omega))) (λ x57 h57=>?_);refine jG ?_;refine E9 ?_)
 all_goals
 refine nB [11,58,59,60,61,62,63,64,65,66,67,68,69,70,71,72,73,74,75,76,77,78,79,80,81,82,83,84,85,86,87,88,89,90,91,92,93,94,95,96,97,98,99,100] (λ z:Nat×dV=>[(11,.int .i64 ((z.1:Nat):Int))]) (λ z=>z.1<=ts.length) (λ z=>[(y.1,.cells ⟨S5 (({y.2 with t:=z.2}:Fe).cl kind mask)⟩ 89 (0,0)),(x6,.cells ⟨S5 ⟨0,⟨0,false⟩,0,0,0,0,0,0,⟨#[]⟩,0,0,0,false⟩⟩ 89 (0,0)),(tb,S3 a l c (pF l y.2.pos)),(bw,pI bm mask pt ts.length kt pe ne ke)]) (λ _=>_) (λ _=>_) (λ z=>ts.length-z.1) ((0,y.2.t)) (Nat.zero_le _) (λ z f hx=>?_);refine K0a ?_;all_goals (refine Cb ?_;refine dM ?_;refine Sx ?_;refine zR ?_)
 all_goals
  refine bD (λ c64=>?_) (λ c64=>?_)
  ·all_goals try (exfalso;omega)
   all_goals (refine sG ?_;refine aV ?_;refine gO [0,1,2,3,4,5,6,7,8,9,10,11,12,13,14,15,16] ?_;refine ue ?_;refine iR ?_;refine cW (i:=6) (hq:=(pS (m:=x57) (n:=z.1) rf rf (by omega))) (h:=?_);refine ue ?_;refine pX ?_;refine cW (i:=12) (hq:=(cp (a:=x57+z.1) (b:=ts.length) rf rf (by omega))) (h:=?_);refine bU (i:=13) (hq:=(aAo (cs:=vQ ts) (k:=(x57+z.1)%ts.length) rf rf gS eE fin (Nat.mod_lt _ h0) (by rw[tR];have:=Nat.mod_lt (x57+z.1) h0;omega))) (h:=?_);refine bU (i:=14) (hq:=(ow (ts:=ts) (q:=(x57+z.1)%ts.length) rf eE fin (Nat.mod_lt _ h0))) (h:=?_);refine aX ?_;refine lZ (i:=16) (hq:=(gE λ _=>mE (off:=1) (vs:=[.int .i64 (ts.getD ((x57+z.1)%ts.length) ⟨0,false⟩).root,.bool (ts.getD ((x57+z.1)%ts.length) ⟨0,false⟩).ro]) rf cY rf rfl eE (Nat.le_of_ble_eq_true rfl) rf iN)) (h:=λ _=>?_);refine eS ?_;refine Ka8 ?_;refine J3 ?_;refine aA ?_)
   all_goals ((refine eF 86 (λ g86=>?_) (λ g86=>?_)<;>refine Ka0 ?_))
   all_goals ((first|refine aI ?_|(refine aF ?_;refine zM ?_));refine Kb9 ?_)
   all_goals (first|(refine aF ?_;refine aE ?_)|(refine eF 90 (λ g90=>?_) (λ g90=>?_)<;>(try (exfalso;omega))<;>(refine aI ?_)))
   all_goals (refine Ka1 ?_;refine Ka2 ?_;(first|refine aI ?_|(refine aF ?_;refine zM ?_));refine Ka0 ?_)
   all_goals (first|refine A2 ?_|(refine eF 95 (λ g95=>?_) (λ g95=>?_)<;>refine Ka0 ?_))
   all_goals ((first|refine aI ?_|refine A2 ?_|(refine aF ?_;refine zM ?_));(first|refine aI ?_|(refine aF ?_;refine cH ?_));refine cH ?_;refine aG ?_)
   all_goals
   refine bD (λ c99=>?_) (λ c99=>?_)
   ·try exact nv c99
    all_goals (refine nG ?_;refine J5 ?_)
    all_goals refine aY Tryz.results54 (λ w hw=>?_);exact⟨{y.2 with t:=ts.getD ((x57+z.1)%ts.length) ⟨0,false⟩,pos:=pF l y.2.pos},rfl,⟨hy,Si (Nat.mod_lt _ h0),λ hk=>by first|(simp_all;done)|(unfold wrK at hk;exfalso;omega)⟩,hw.bA⟩
   ·try exact nv c99
    all_goals try (exfalso;omega)
    all_goals (refine Kc5 ?_)
    all_goals refine iX ((z.1+1,ts.getD ((x57+z.1)%ts.length) ⟨0,false⟩)) ?_;·omega
  ·all_goals try (exfalso;omega)
   all_goals (refine bS rfl ?_;refine mY ?_;refine aC (aAo (cs:=vQ ts) (k:=0) rf rf gS eE fin h0 (by rw[tR];omega)) rfl ?_;refine aC (ow (ts:=ts) (q:=0) rf eE fin h0) rfl ?_;refine aE ?_;refine bT (gE λ _=>mE (off:=1) (vs:=[.int .i64 (ts.getD 0 ⟨0,false⟩).root,.bool (ts.getD 0 ⟨0,false⟩).ro]) rf cY rf rfl eE (Nat.le_of_ble_eq_true rfl) rf iN) (λ _=>?_);refine aG ?_;refine nG ?_;refine J5 ?_)
   all_goals
   refine aY Tryz.results54 (λ w hw=>?_);exact⟨{y.2 with t:=ts.getD 0 ⟨0,false⟩,pos:=pF l y.2.pos},rfl,⟨hy,Si h0,λ _=>hr0⟩,hw.bA⟩
end
end
section
open Go.Ct
inductive CT where
 | no
 | main (i:Int)
 | prev (m:Int)
 | stat (d:Int)
 | root
 | rort
structure Kw where
 mm:Mm
 way:Int->List Nat
 gb:Int->Int
 ct:Int->CT
abbrev Kw.nd(σ:Kw)(r:Int):Nv:=bH σ.mm.nodes r
abbrev Kw.ce(σ:Kw)(c:Int):Int:=bJ σ.mm.cs c
abbrev Kw.len(σ:Kw):Nat:=σ.mm.nodes.length
abbrev Kw.cl(σ:Kw):Nat:=σ.mm.cs.length
def fQ(h:Nat)(w:List Nat):Prop:=∀k,k<w.length->sl h k=w.getD k 0
def uV(σ:Kw)(i:Int)(w:List Nat):Prop:=(σ.nd i).kind=2/\σ.way i=w
def oS(σ:Kw)(m:Int)(w:List Nat)(g:Int):Prop:=cB (σ.nd m)/\σ.way m=w/\σ.gb m<=g
def bC(σ:Kw)(m:Int):Prop:=σ.ce (σ.nd m).prev=0
def qW(σ:Kw)(m p:Int):Prop:=oS σ p (σ.way m) (σ.gb m)/\bC σ p
def Mi(σ:Kw)(w:List Nat)(g b:Int):Prop:=((σ.nd b).kind=4/\fQ (σ.nd b).hash.toNat w)∨((σ.nd b).kind=2/\σ.way b=w/\(σ.nd b).gen<=g)
structure NdI(H:ByteArray->Nat)(σ:Kw)(r:Int):Prop where
 valid:cJ (σ.nd r).nd (σ.nd r).xs (σ.nd r).ys
 gen:(σ.nd r).gen<=σ.mm.gen
 bd:mT σ.len σ.cl (σ.nd r)
 k2:(σ.nd r).kind=2->(σ.way r).length<=11/\1<=(σ.nd r).main/\σ.ct (σ.nd r).main=.main r
 k3:(σ.nd r).kind=3->(σ.way r).length<=10/\(∀k:Nat,∀b,iO (σ.nd r) k=some b->Mi σ (σ.way r++[k]) (σ.gb r) b)/\(0<(σ.way r).length->(σ.nd r).xs≠[]/\∀b,(σ.nd r).xs=[b]->(σ.nd b).kind=2)/\1<=(σ.nd r).prev/\σ.ct (σ.nd r).prev=.prev r
 k4:(σ.nd r).kind=4->H (σ.nd r).key=(σ.nd r).hash.toNat
 k5:(σ.nd r).kind=5->0<(σ.way r).length/\(σ.way r).length<=11/\H (σ.nd r).key=(σ.nd r).hash.toNat/\fQ (σ.nd r).hash.toNat (σ.way r)/\1<=(σ.nd r).prev/\σ.ct (σ.nd r).prev=.prev r
 k6:(σ.nd r).kind=6->(σ.way r).length=11/\fQ (σ.nd r).hash.toNat (σ.way r)/\(∀p∈(σ.nd r).ys,H p.1=(σ.nd r).hash.toNat)/\1<=(σ.nd r).prev/\σ.ct (σ.nd r).prev=.prev r
 k7:(σ.nd r).kind=7->cB (σ.nd (σ.nd r).bR)
 k8:(σ.nd r).kind=8->uV σ (σ.nd r).bR []/\uV σ (σ.nd r).new []/\1<=(σ.nd r).status/\σ.ct (σ.nd r).status=.stat r
structure sj(σ:Kw)(c:Int):Prop where
 lo:0<=σ.ce c
 hi:σ.ce c<=σ.len
 main:∀i,σ.ct c=.main i->(σ.nd i).kind=2/\oS σ (σ.ce c) (σ.way i) (σ.nd i).gen
 prev:∀m,σ.ct c=.prev m->cB (σ.nd m)/\(σ.ce c=0∨qW σ m (σ.ce c)∨((σ.nd (σ.ce c)).kind=7/\qW σ m (σ.nd (σ.ce c)).bR))
 stat:∀d,σ.ct c=.stat d->σ.ce c=0∨σ.ce c=1∨σ.ce c=2
 root:σ.ct c=.root->uV σ (σ.ce c) []∨(σ.nd (σ.ce c)).kind=8
 rort:σ.ct c=.rort->uV σ (σ.ce c) []
structure Inv(H:ByteArray->Nat)(σ:Kw):Prop where
 two:2<=σ.len
 m1:(σ.nd 1).kind=1
 m2:(σ.nd 2).kind=1
 gen:0<=σ.mm.gen
 prop:gL σ.mm.nodes σ.mm.cs σ.mm.gen
 nd:∀r:Int,1<=r->r<=σ.len->NdI H σ r
 ce:∀c:Int,1<=c->c<=σ.cl->sj σ c
structure Le(σ τ:Kw):Prop where
 nodes:∃N,τ.mm.nodes=σ.mm.nodes++N
 cl:σ.cl<=τ.cl
 gen:σ.mm.gen<=τ.mm.gen
 way:∀r:Int,r<=σ.len->τ.way r=σ.way r
 gb:∀r:Int,r<=σ.len->τ.gb r=σ.gb r
 ct:∀c:Int,c<=σ.cl->τ.ct c=σ.ct c
 done:∀(c m:Int),1<=c->c<=σ.cl->σ.ct c=.prev m->¬cB (σ.nd (σ.ce c))->τ.ce c=σ.ce c
 next:∀(c m:Int),1<=c->c<=σ.cl->σ.ct c=.prev m->cB (σ.nd (σ.ce c))->τ.ce c=σ.ce c∨τ.ce c=0∨((τ.nd (τ.ce c)).kind=7/\(τ.nd (τ.ce c)).bR=σ.ce c)
theorem Le.refl(σ:Kw):Le σ σ:=⟨⟨[],by simp⟩,Nat.le_refl _,Int.le_refl _,λ _ _=>rfl,λ _ _=>rfl,λ _ _=>rfl,λ _ _ _ _ _ _=>rfl,λ _ _ _ _ _ _=>.inl rfl⟩
section
variable{H:ByteArray->Nat}{σ τ υ:Kw}
theorem Le.len(h:Le σ τ):σ.len<=τ.len:=by obtain⟨N,e⟩:=h.nodes;simp only[Kw.len,e,List.length_append];omega
theorem Le.nd(h:Le σ τ){r:Int}(hr:r<=σ.len):τ.nd r=σ.nd r:=by obtain⟨N,e⟩:=h.nodes;simp only[Kw.nd,e];exact I2 hr
theorem iY{N:List Nv}{r:Int}(h:cB (bH N r)):1<=r/\r<=N.length:=eQ (by unfold cB at h;omega)
theorem cB.ne0{n:Nv}(h:cB n):n.kind≠0/\n.kind≠7/\n.kind≠2/\n.kind≠8:=by unfold cB at h;omega
theorem jZ{n:Nv}(h:n.kind=0∨n.kind=7∨n.kind=2∨n.kind=8∨n.kind=1):¬cB n:=λ hm=>by unfold cB at hm;omega
theorem yS(N:List Nv):(bH N 0).kind=0:=by unfold bH;rw[if_neg (by omega)];rfl
def Nxt(σ τ:Kw)(v v':Int):Prop:=(¬cB (σ.nd v)->v'=v)/\(cB (σ.nd v)->v'=v∨v'=0∨((τ.nd v').kind=7/\(τ.nd v').bR=v))
theorem Le.nxt(h:Le σ τ){c m:Int}(h1:1<=c)(hc:c<=σ.cl)(e:σ.ct c=.prev m):Nxt σ τ (σ.ce c) (τ.ce c):=⟨h.done c m h1 hc e,h.next c m h1 hc e⟩
theorem Le.trans(i1:Inv H σ)(i2:Inv H τ)(h:Le σ τ)(h2:Le τ υ):Le σ υ:=by
 have hl:=h.len;have hl2:=h2.len;refine⟨?_,Nat.le_trans h.cl h2.cl,Int.le_trans h.gen h2.gen,λ r hr=>(h2.way r (by omega)).trans (h.way r hr),λ r hr=>(h2.gb r (by omega)).trans (h.gb r hr),λ c hc=>(h2.ct c (by have:=h.cl;omega)).trans (h.ct c hc),λ c m h1 hc e hk=>?_,λ c m h1 hc e hk=>?_⟩
 ·obtain⟨N,e⟩:=h.nodes;obtain⟨N2,e2⟩:=h2.nodes;exact⟨N++N2,by rw[e2,e,List.append_assoc]⟩
 ·have e1:=h.done c m h1 hc e hk;have e2:τ.ct c=.prev m:=(h.ct c hc).trans e;rw[<- e1];refine h2.done c m h1 (by have:=h.cl;omega) e2 ?_;rw[e1,h.nd (i1.ce c h1 hc).hi];exact hk
 ·have e2:τ.ct c=.prev m:=(h.ct c hc).trans e;have hc2:c<=τ.cl:=by have:=h.cl;omega
  rcases h.next c m h1 hc e hk with e1|e1|⟨e1,e3⟩;·rw[<- e1];refine h2.next c m h1 hc2 e2 ?_;rw[e1,h.nd (i1.ce c h1 hc).hi];exact hk
  ·refine .inr (.inl ?_);rw[h2.done c m h1 hc2 e2 (by rw[e1];exact jZ (.inl (yS _))),e1]
  ·refine .inr (.inr ?_);rw[h2.done c m h1 hc2 e2 (jZ (.inr (.inl e1))),h2.nd (i2.ce c h1 hc2).hi];exact⟨e1,e3⟩
def WT(H:ByteArray->Nat)(Q:Rs->Kw->Prop):Tr->Kw->Prop
 | .done r,σ=>Q r σ
 | .load c k,σ=>∀τ,Le σ τ->Inv H τ->WT H Q (k (τ.ce c)) τ
 | .kH c o n k,σ=>∀τ,Le σ τ->Inv H τ->(iJ τ.mm.cs c o->∃υ,Le τ υ/\Inv H υ/\υ.mm=⟨τ.mm.nodes,eK τ.mm.cs c o n,τ.mm.gen⟩/\WT H Q (k true) υ)/\(¬iJ τ.mm.cs c o->WT H Q (k false) τ)
 | .alloc n i k,σ=>∃υ,Le σ υ/\Inv H υ/\υ.mm=σ.mm.push n i/\WT H Q (k ((σ.len+1:Nat):Int)) υ
 | .cell i k,σ=>∃υ,Le σ υ/\Inv H υ/\υ.mm=⟨σ.mm.nodes,σ.mm.cs++[i],σ.mm.gen⟩/\WT H Q (k ((σ.cl+1:Nat):Int)) υ
 | .gen k,σ=>∃υ,Le σ υ/\Inv H υ/\υ.mm=⟨σ.mm.nodes,σ.mm.cs,σ.mm.gen+1⟩/\WT H Q (k (σ.mm.gen+1)) υ
 | .node r k,σ=>r<=σ.len/\WT H Q (k (σ.nd r)) σ
 | .stuck,_=>True
def dL:Tr->Bool
 | .load _ _=>true
 | .kH _ _ _ _=>true
 | .done _=>true
 | _=>false
variable{t t':Tr}{s':Mm}
theorem WT.sp{Q:Rs->Kw->Prop}(i1:Inv H σ)(w:WT H Q t σ)(h:Sp t σ.mm t' s'):∃υ,Le σ υ/\Inv H υ/\υ.mm=s'/\WT H Q t' υ:=by
 cases h with
 | alloc n i k s=>exact w
 | cell i k s=>exact w
 | gen k s=>exact w
 | node r k s h=>exact⟨σ,Le.refl σ,i1,rfl,w.2⟩
theorem WT.lp{Q:Rs->Kw->Prop}(i1:Inv H σ)(w:WT H Q t σ)(h:Lp t σ.mm t' s'):∃υ,Le σ υ/\Inv H υ/\υ.mm=s'/\WT H Q t' υ:=by
 cases h with
 | load c k s=>exact⟨σ,Le.refl σ,i1,rfl,w σ (Le.refl σ) i1⟩
 | kH c o n k s b hb=>
  obtain⟨w1,w2⟩:=w σ (Le.refl σ) i1;cases b with
  | true=>exact w1 (hb.1 rfl)
  | false=>
   have hn:¬iJ σ.mm.cs c o:=λ h=>by have:=hb.2 h;cases this
   refine⟨σ,Le.refl σ,i1,?_,w2 hn⟩;rw[show eK σ.mm.cs c o n=σ.mm.cs from tM hn]
theorem WT.rc{Q:Rs->Kw->Prop}{s:Mm}{j:Nat}(h:Rc j t s t' s'):∀{σ:Kw},σ.mm=s->Inv H σ->WT H Q t σ->∃υ,Le σ υ/\Inv H υ/\υ.mm=s'/\WT H Q t' υ:=by
 induction h with
 | refl t s=>intro σ e i w;exact⟨σ,Le.refl σ,i,e,w⟩
 | eD _ hs ih=>intro σ e i w;obtain⟨υ,l1,i1,e1,w1⟩:=ih e i w;subst e1;obtain⟨ρ,l2,i2,e2,w2⟩:=w1.sp i1 hs;exact⟨ρ,l1.trans i i1 l2,i2,e2,w2⟩
 | loud _ hs ih=>intro σ e i w;obtain⟨υ,l1,i1,e1,w1⟩:=ih e i w;subst e1;obtain⟨ρ,l2,i2,e2,w2⟩:=w1.lp i1 hs;exact⟨ρ,l1.trans i i1 l2,i2,e2,w2⟩
end
end
section
open Go.Ct
section
variable{H:ByteArray->Nat}{σ τ υ:Kw}{r:Int}{w:List Nat}
variable{cs:List Int}{c o v g:Int}
theorem kW(h:iJ cs c o)(c':Int):bJ (eK cs c o v) c'=if c'=c then v else bJ cs c':=by
 have hl:=gN (cs:=cs) (c:=c) (bR:=o) (new:=v);obtain⟨h1,h2,h3⟩:=h;have e:eK cs c o v=cs.set (c-1).toNat v:=if_pos ⟨h1,h2,h3⟩;unfold bJ;rw[hl];by_cases hc:1<=c'/\c'<=cs.length
 ·rw[if_pos hc,if_pos hc,e];by_cases e2:c'=c;·subst e2;rw[if_pos rfl];rw[jA,List.getElem?_set,if_pos rfl,if_pos (by omega)];rfl
  ·rw[if_neg e2];rw[jA,List.getElem?_set,if_neg (by omega),jA]
 ·rw[if_neg hc,if_neg hc,if_neg (by omega)]
theorem wZ(h:iJ cs c o):bJ cs c=o:=by obtain⟨h1,h2,h3⟩:=h;unfold bJ;rw[if_pos ⟨h1,h2⟩,h3]
theorem uV.in(h:uV σ r w):1<=r/\r<=σ.len:=eQ (by rw[h.1];decide)
theorem oS.in(h:oS σ r w g):1<=r/\r<=σ.len:=iY h.1
theorem Inv.kK(i:Inv H σ){m:Int}(h:cB (σ.nd m)):1<=(σ.nd m).prev/\(σ.nd m).prev<=σ.cl/\σ.ct (σ.nd m).prev=.prev m:=by
 have hr:=iY h;have hn:=i.nd m hr.1 hr.2;have hb:=hn.bd.prev;rcases h with h|h|h
 ·have:=hn.k3 h;exact⟨this.2.2.2.1,hb,this.2.2.2.2⟩
 ·have:=hn.k5 h;exact⟨this.2.2.2.2.1,hb,this.2.2.2.2.2⟩
 ·have:=hn.k6 h;exact⟨this.2.2.2.1,hb,this.2.2.2.2⟩
theorem Inv.eG(i:Inv H σ){r:Int}(h:(σ.nd r).kind=2):1<=(σ.nd r).main/\(σ.nd r).main<=σ.cl/\σ.ct (σ.nd r).main=.main r:=by have hr:=eQ (N:=σ.mm.nodes) (i:=r) (by rw[h];decide);have hn:=i.nd r hr.1 hr.2;exact⟨(hn.k2 h).2.1,hn.bd.main,(hn.k2 h).2.2⟩
theorem Inv.lh(i:Inv H σ){r:Int}(h:(σ.nd r).kind=8):1<=(σ.nd r).status/\(σ.nd r).status<=σ.cl/\σ.ct (σ.nd r).status=.stat r:=by have hr:=eQ (N:=σ.mm.nodes) (i:=r) (by rw[h];decide);have hn:=i.nd r hr.1 hr.2;exact⟨(hn.k8 h).2.2.1,hn.bd.status,(hn.k8 h).2.2.2⟩
theorem uV.up(h:uV σ r w)(l:Le σ τ):uV τ r w:=by have hr:=h.in;exact⟨by rw[l.nd hr.2];exact h.1,by rw[l.way r hr.2];exact h.2⟩
theorem oS.up(h:oS σ r w g)(l:Le σ τ):oS τ r w g:=by have hr:=h.in;exact⟨by rw[l.nd hr.2];exact h.1,by rw[l.way r hr.2];exact h.2.1,by rw[l.gb r hr.2];exact h.2.2⟩
theorem oS.le{g':Int}(h:oS σ r w g)(hg:g<=g'):oS σ r w g':=⟨h.1,h.2.1,Int.le_trans h.2.2 hg⟩
theorem bC.up(i:Inv H σ)(hm:cB (σ.nd r))(h:bC σ r)(l:Le σ τ):bC τ r:=by have hc:=i.kK hm;unfold bC;rw[l.nd (iY hm).2,l.done _ r hc.1 hc.2.1 hc.2.2 (by rw[h];exact jZ (.inl (yS _)))];exact h
theorem sj.same(h:sj σ c)(hm:υ.mm.nodes=σ.mm.nodes)(hw:υ.way=σ.way)(hg:υ.gb=σ.gb)(hct:υ.ct=σ.ct)(hc:υ.ce c=σ.ce c)(hs:∀p,cB (σ.nd p)->bC σ p->bC υ p):sj υ c:=by
 have hl:υ.len=σ.len:=by simp only[Kw.len,hm]
 have hn:∀r,υ.nd r=σ.nd r:=λ r=>by simp only[Kw.nd,hm]
 have hM:∀p w g,oS σ p w g->oS υ p w g:=λ p w g h=>⟨by rw[hn];exact h.1,by rw[hw];exact h.2.1,by rw[hg];exact h.2.2⟩;have hP:∀m p,qW σ m p->qW υ m p:=λ m p h=>⟨by rw[hw,hg];exact hM _ _ _ h.1,hs p h.1.1 h.2⟩;refine⟨by rw[hc];exact h.lo,by rw[hc,hl];exact h.hi,λ i e=>?_,λ m e=>?_,λ d e=>?_,λ e=>?_,λ e=>?_⟩
 ·rw[hc,hw,hn];obtain⟨h0,h1⟩:=h.main i (by rw[<- hct];exact e);exact⟨h0,hM _ _ _ h1⟩
 ·rw[hc,hn,hn];obtain⟨h0,h⟩:=h.prev m (by rw[<- hct];exact e);refine⟨h0,?_⟩;rcases h with h1|h1|⟨h1,h2⟩;·exact .inl h1
  ·exact .inr (.inl (hP _ _ h1))
  ·exact .inr (.inr ⟨h1,hP _ _ h2⟩)
 ·rw[hc];exact h.stat d (by rw[<- hct];exact e)
 ·rw[hc,hn];rcases h.root (by rw[<- hct];exact e) with h1|h1;·exact .inl ⟨by rw[hn];exact h1.1,by rw[hw];exact h1.2⟩
  ·exact .inr h1
 ·rw[hc];have h1:=h.rort (by rw[<- hct];exact e);exact⟨by rw[hn];exact h1.1,by rw[hw];exact h1.2⟩
theorem gL.kH{N:List Nv}{gen:Int}(h:gL N cs gen)(lo:0<=v)(hi:v<=N.length):gL N (eK cs c o v) gen:=by
 unfold eK;split
 ·refine⟨h.two,h.gen0,h.m0,h.m1,λ i hi'=>?_,h.nodes,by rw[List.length_set];exact h.marks⟩;rw[List.length_set] at hi';rw[jA,List.getElem?_set];split;·rw[if_pos (by omega)];exact⟨lo,by rw[List.length_map];exact hi⟩
  ·rw[<- jA];exact h.cells i hi'
 ·exact h
structure Xk(σ:Kw)(c o v:Int):Prop where
 lo:0<=v
 hi:v<=σ.len
 main:∀i,σ.ct c=.main i->oS σ v (σ.way i) (σ.nd i).gen
 prev:∀m,σ.ct c=.prev m->cB (σ.nd o)/\(v=0∨((σ.nd v).kind=7/\(σ.nd v).bR=o))
 stat:∀d,σ.ct c=.stat d->v=0∨v=1∨v=2
 root:σ.ct c=.root->uV σ v []∨(σ.nd v).kind=8
 rort:σ.ct c=.rort->uV σ v []
def Kw.set(σ:Kw)(c o v:Int):Kw:=⟨⟨σ.mm.nodes,eK σ.mm.cs c o v,σ.mm.gen⟩,σ.way,σ.gb,σ.ct⟩
theorem xj{c o v:Int}(i:Inv H σ)(hk:iJ σ.mm.cs c o)(hs:Xk σ c o v):Le σ (σ.set c o v)/\Inv H (σ.set c o v)/\(σ.set c o v).ce c=v:=by
 unfold Kw.set;refine⟨?_,?_,by show bJ (eK _ _ _ _) c=v;rw[kW hk,if_pos rfl]⟩
 ·refine⟨⟨[],by simp⟩,by simp only[Kw.cl,gN];exact Nat.le_refl _,Int.le_refl _,λ _ _=>rfl,λ _ _=>rfl,λ _ _=>rfl,λ c' m h1 hc e hm=>?_,λ c' m h1 hc e hm=>?_⟩
  ·show bJ (eK _ _ _ _) c'=_;rw[kW hk];split;·rename_i e2;subst e2;exact absurd (by rw[show σ.ce c'=o from wZ hk];exact(hs.prev m e).1) hm
   ·rfl
  ·show bJ (eK _ _ _ _) c'=_∨bJ (eK _ _ _ _) c'=_∨_;rw[kW hk];split
   ·rename_i e2;subst e2;have e3:σ.ce c'=o:=wZ hk;rcases(hs.prev m e).2 with h|h
    ·exact .inr (.inl h)
    ·refine .inr (.inr ?_);show(bH σ.mm.nodes (bJ (eK _ _ _ _) c')).kind=7/\(bH σ.mm.nodes (bJ (eK _ _ _ _) c')).bR=_;rw[kW hk,if_pos rfl,e3];exact h
   ·exact .inl rfl
 ·have hcl:(eK σ.mm.cs c o v).length=σ.cl:=gN;refine⟨i.two,i.m1,i.m2,i.gen,gL.kH i.prop hs.lo hs.hi,λ r h1 h2=>?_,λ c' h1 h2=>?_⟩
  ·have h:=i.nd r h1 h2;exact⟨h.valid,h.gen,by simp only[Kw.cl,hcl];exact h.bd,h.k2,h.k3,h.k4,h.k5,h.k6,h.k7,h.k8⟩
  ·simp only[Kw.cl,hcl] at h2;have hset:∀p,cB (σ.nd p)->bC σ p->bJ (eK σ.mm.cs c o v) (σ.nd p).prev=0:=λ p hm hp=>by
    rw[kW hk];split;·rename_i e;have hc:=(i.kK hm).2.2;rw[e] at hc;have h0:σ.ce (σ.nd p).prev=0:=hp;rw[e,show σ.ce c=o from wZ hk] at h0;have:=(hs.prev p hc).1;rw[h0] at this;exact absurd this (jZ (.inl (yS _)))
    ·exact hp
   by_cases e:c'=c
   ·subst e;have e2:bJ (eK σ.mm.cs c' o v) c'=v:=by rw[kW hk,if_pos rfl]
    have e3:σ.ce c'=o:=wZ hk;refine⟨by simp only[Kw.ce,e2];exact hs.lo,by simp only[Kw.ce,e2];exact hs.hi,λ i' h=>?_,λ m h=>?_,λ d h=>?_,λ h=>?_,λ h=>?_⟩
    ·simp only[Kw.ce,e2];exact⟨((i.ce c' h1 h2).main i' h).1,hs.main i' h⟩
    ·simp only[Kw.ce,e2];have hp:=hs.prev m h;have hold:qW σ m o:=by
      rcases((i.ce c' h1 h2).prev m h).2 with h3|h3|h3
      ·rw[e3] at h3;rw[h3] at hp;exact absurd hp.1 (jZ (.inl (yS _)))
      ·rwa [e3] at h3
      ·rw[e3] at h3;exact absurd hp.1 (jZ (.inr (.inl h3.1)))
     refine⟨((i.ce c' h1 h2).prev m h).1,?_⟩;rcases hp.2 with h3|⟨h3,h4⟩;·exact .inl h3
     ·refine .inr (.inr ⟨h3,?_⟩);show qW _ m (σ.nd v).bR;rw[h4];exact⟨hold.1,hset _ hp.1 hold.2⟩
    ·simp only[Kw.ce,e2];exact hs.stat d h
    ·simp only[Kw.ce,e2];exact hs.root h
    ·simp only[Kw.ce,e2];exact hs.rort h
   ·exact(i.ce c' h1 h2).same rfl rfl rfl rfl (by show bJ (eK _ _ _ _) c'=_;rw[kW hk,if_neg e]) hset
structure Ext(σ υ:Kw):Prop where
 nodes:∃N,υ.mm.nodes=σ.mm.nodes++N
 cs:∃C,υ.mm.cs=σ.mm.cs++C
 gen:σ.mm.gen<=υ.mm.gen
 way:∀r:Int,r<=σ.len->υ.way r=σ.way r
 gb:∀r:Int,r<=σ.len->υ.gb r=σ.gb r
 ct:∀c:Int,c<=σ.cl->υ.ct c=σ.ct c
theorem sW{cs C:List Int}{c:Int}(h:c<=cs.length):bJ (cs++C) c=bJ cs c:=by
 unfold bJ;by_cases h1:1<=c;·rw[if_pos ⟨h1,by simp;omega⟩,if_pos ⟨h1,h⟩,jA,jA,List.getElem?_append_left (by omega)]
 ·rw[if_neg (by omega),if_neg (by omega)]
theorem Ext.ce(e:Ext σ υ){c:Int}(h:c<=σ.cl):υ.ce c=σ.ce c:=by obtain⟨C,h2⟩:=e.cs;simp only[Kw.ce,h2];exact sW h
theorem Ext.cl(e:Ext σ υ):σ.cl<=υ.cl:=by obtain⟨C,h2⟩:=e.cs;simp only[Kw.cl,h2,List.length_append];omega
theorem Ext.le(e:Ext σ υ):Le σ υ:=⟨e.nodes,e.cl,e.gen,e.way,e.gb,e.ct,λ _ _ _ h _ _=>e.ce h,λ _ _ _ h _ _=>.inl (e.ce h)⟩
theorem Mi.up{g b:Int}(h:Mi σ w g b)(l:Le σ υ):Mi υ w g b:=by
 rcases h with h|h;·have hr:=eQ (N:=σ.mm.nodes) (i:=b) (by rw[h.1];decide);exact .inl (by rw[l.nd hr.2];exact h)
 ·have hr:=eQ (N:=σ.mm.nodes) (i:=b) (by rw[h.1];decide);exact .inr (by rw[l.nd hr.2,l.way b hr.2];exact h)
theorem NdI.ext(h:NdI H σ r)(hr:r<=σ.len)(e:Ext σ υ):NdI H υ r:=by
 have l:=e.le;have hn:=l.nd hr;have hw:=l.way r hr;have hk:∀b,(σ.nd b).kind=2->(υ.nd b).kind=2:=λ b hb=>by rw[l.nd (eQ (N:=σ.mm.nodes) (i:=b) (by rw[hb];decide)).2];exact hb
 refine⟨by rw[hn];exact h.valid,by rw[hn];have:=h.gen;have:=e.gen;omega,by rw[hn];exact h.bd.mono l.len l.cl,λ k=>?_,λ k=>?_,λ k=>?_,λ k=>?_,λ k=>?_,λ k=>?_,λ k=>?_⟩<;>rw[hn] at k ⊢;·obtain⟨h1,h2,h3⟩:=h.k2 k;exact⟨by rw[hw];exact h1,h2,by rw[l.ct _ h.bd.main];exact h3⟩
 ·obtain⟨h1,h2,h3,h4,h5⟩:=h.k3 k;rw[hw];refine⟨h1,λ k' b hb=>by rw[l.gb r hr];exact(h2 k' b hb).up l,λ h0=>⟨(h3 h0).1,λ b hb=>hk b ((h3 h0).2 b hb)⟩,h4,by rw[l.ct _ h.bd.prev];exact h5⟩
 ·exact h.k4 k
 ·rw[hw,l.ct _ h.bd.prev];exact h.k5 k
 ·rw[hw,l.ct _ h.bd.prev];exact h.k6 k
 ·have:=h.k7 k;rw[l.nd (iY this).2];exact this
 ·obtain⟨h1,h2,h3,h4⟩:=h.k8 k;exact⟨h1.up l,h2.up l,h3,by rw[l.ct _ h.bd.status];exact h4⟩
theorem sj.ext{c:Int}(i:Inv H σ)(h:sj σ c)(hc:c<=σ.cl)(e:Ext σ υ):sj υ c:=by
 have l:=e.le;have hv:=e.ce hc;have hP:∀m p:Int,m<=σ.len->qW σ m p->qW υ m p:=λ m p hm hp=>⟨by rw[l.way m hm,l.gb m hm];exact hp.1.up l,bC.up i hp.1.1 hp.2 l⟩;refine⟨by rw[hv];exact h.lo,by rw[hv];have:=h.hi;have:=l.len;omega,λ i' k=>?_,λ m k=>?_,λ d k=>?_,λ k=>?_,λ k=>?_⟩<;>rw[l.ct c hc] at k<;>rw[hv]
 ·obtain⟨h1,h2⟩:=h.main i' k;have hr:=eQ (N:=σ.mm.nodes) (i:=i') (by rw[h1];decide);rw[l.nd hr.2,l.way i' hr.2];exact⟨h1,h2.up l⟩
 ·obtain⟨h1,h2⟩:=h.prev m k;have hr:=iY h1;rw[l.nd hr.2];refine⟨h1,?_⟩;rcases h2 with h2|h2|⟨h2,h3⟩
  ·exact .inl h2
  ·exact .inr (.inl (hP m _ hr.2 h2))
  ·refine .inr (.inr ?_);rw[l.nd h.hi];exact⟨h2,hP m _ hr.2 h3⟩
 ·exact h.stat d k
 ·rcases h.root k with h1|h1;·exact .inl (h1.up l)
  ·exact .inr (by rw[l.nd h.hi];exact h1)
 ·exact(h.rort k).up l
theorem M1(i:Inv H σ)(e:Ext σ υ)(hp:gL υ.mm.nodes υ.mm.cs υ.mm.gen)(hn:∀r:Int,σ.len<r->r<=υ.len->NdI H υ r)(hc:∀c:Int,σ.cl<c->c<=υ.cl->sj υ c):Inv H υ:=by
 have l:=e.le;refine⟨Nat.le_trans i.two l.len,by rw[l.nd (by have:=i.two;omega)];exact i.m1,by rw[l.nd (by have:=i.two;omega)];exact i.m2,Int.le_trans i.gen e.gen,hp,λ r h1 h2=>?_,λ c h1 h2=>?_⟩
 ·rcases Int.lt_or_le σ.len r with h|h;·exact hn r h h2
  ·exact(i.nd r h1 h).ext h e
 ·rcases Int.lt_or_le σ.cl c with h|h;·exact hc c h h2
  ·exact sj.ext i (i.ce c h1 h) h e
def Kw.add(σ:Kw)(n:Nv)(i:Int)(w:List Nat)(g:Int)(t:CT):Kw :=⟨σ.mm.push n i,λ r=>if r<=σ.len then σ.way r else w,λ r=>if r<=σ.len then σ.gb r else g,λ c=>if c<=σ.cl then σ.ct c else t⟩
theorem Ww(σ:Kw)(n:Nv)(i:Int)(w:List Nat)(g:Int)(t:CT):Ext σ (σ.add n i w g t) :=⟨⟨_,rfl⟩,by unfold Kw.add Mm.push fJ;dsimp only;split;exact⟨_,rfl⟩;exact⟨[],by simp⟩,Int.le_refl _,λ r hr=>if_pos hr,λ r hr=>if_pos hr,λ c hc=>if_pos hc⟩
theorem Wv(σ:Kw)(n:Nv)(i:Int)(w:List Nat)(g:Int)(t:CT):(σ.add n i w g t).len=σ.len+1:=by simp[Kw.len,Kw.add,Mm.push]
theorem aAB(σ:Kw)(n:Nv)(i:Int)(w:List Nat)(g:Int)(t:CT):(σ.add n i w g t).nd ((σ.len+1:Nat):Int)=dJ n σ.cl:=by
 simp only[Kw.nd,Kw.add,Mm.push,bH,List.length_append,List.length_cons,List.length_nil];rw[if_pos ⟨by omega,by simp only[Kw.len];omega⟩];have e:(((σ.len+1:Nat):Int)-1).toNat=σ.mm.nodes.length:=by simp only[Kw.len];omega
 rw[e];simp[jA]
theorem uk(σ:Kw)(n:Nv)(i:Int)(w:List Nat)(g:Int)(t:CT):(σ.add n i w g t).way ((σ.len+1:Nat):Int)=w:=if_neg (by omega)
theorem aBB(σ:Kw)(n:Nv)(i:Int)(w:List Nat)(g:Int)(t:CT):(σ.add n i w g t).gb ((σ.len+1:Nat):Int)=g:=if_neg (by omega)
theorem aBQ(σ:Kw)(n:Nv)(i:Int)(w:List Nat)(g:Int)(t:CT):(σ.add n i w g t).ct ((σ.cl+1:Nat):Int)=t:=if_neg (by omega)
theorem aBc(σ:Kw){n:Nv}(i:Int)(w:List Nat)(g:Int)(t:CT)(h:n.kind=2∨n.kind=3∨n.kind=5∨n.kind=6∨n.kind=8):(σ.add n i w g t).cl=σ.cl+1/\(σ.add n i w g t).ce ((σ.cl+1:Nat):Int)=i:=by
 have e:(σ.add n i w g t).mm.cs=σ.mm.cs++[i]:=by simp only[Kw.add,Mm.push,fJ];exact if_pos h
 refine⟨by simp[Kw.cl,e],?_⟩;simp only[Kw.ce,e,bJ,List.length_append,List.length_cons,List.length_nil];rw[if_pos ⟨by omega,by simp only[Kw.cl];omega⟩];have e2:(((σ.cl+1:Nat):Int)-1).toNat=σ.mm.cs.length:=by simp only[Kw.cl];omega
 rw[e2];simp[jA]
theorem wi(σ:Kw){n:Nv}(i:Int)(w:List Nat)(g:Int)(t:CT)(h:¬(n.kind=2∨n.kind=3∨n.kind=5∨n.kind=6∨n.kind=8)):(σ.add n i w g t).cl=σ.cl:=by
 have e:(σ.add n i w g t).mm.cs=σ.mm.cs:=by simp only[Kw.add,Mm.push,fJ];exact if_neg h
 simp[Kw.cl,e]
theorem xx{n:Nv}{i:Int}{g:Int}{t:CT}(h:Inv H σ)(hok:nF σ.mm.gen (σ.len+1) (dJ n σ.cl).dv)(hi:E3 i σ.len)(hn:NdI H (σ.add n i w g t) ((σ.len+1:Nat):Int))(hc:(σ.add n i w g t).cl=σ.cl+1->sj (σ.add n i w g t) ((σ.cl+1:Nat):Int))(hcl:(σ.add n i w g t).cl<=σ.cl+1):Inv H (σ.add n i w g t):=by
 refine M1 h (Ww σ n i w g t) (gL.push h.prop hok hi) (λ r h1 h2=>?_) (λ c h1 h2=>?_);·rw[Wv] at h2;rw[show r=((σ.len+1:Nat):Int) by omega];exact hn
 ·rw[show c=((σ.cl+1:Nat):Int) by omega];exact hc (by omega)
end
end
end Go.Proofs.YtbajmaoegmbfgaaGreat
namespace Go.Ct
section
section
variable{gen:Int}{n c:Nat}
theorem Mq(h:0<=gen):nF gen n fG.c.dv:=⟨⟨by simp[tG,Nd.own,Nd.jR,Nd.jP,fG,Nd.zero,aR.c,Nd.c,Nv.dv,Nv.nd],by decide,by decide,by decide,.inl rfl⟩,h,λ i hi=>by simp[fG,aR.c,Nd.c,Nv.dv] at hi,⟨by decide,bM n⟩,⟨by decide,bM n⟩,⟨by decide,bM n⟩⟩
theorem fT:E3 0 n:=⟨Int.le_refl _,bM n⟩
theorem Y3{h u:Int}{k:ByteArray}(hg:0<=gen)(hk:k.size<=64):nF gen n (dJ (({Nd.zero with kind:=4,hash:=h,key:=k,val:=u}:Nd).c [] []) c).dv :=⟨⟨by simp[tG,Nd.own,Nd.jR,Nd.jP,Nd.zero,dJ,Nd.c,Nv.dv,Nv.nd],by simp[dJ,Nd.c,Nv.dv,Nv.nd,Nd.zero],by simp[dJ,Nd.c,Nv.dv,Nv.nd,Nd.zero],by simp[dJ,Nd.c,Nv.dv,Nv.nd,Nd.zero],.inr (.inr (.inr (.inl ⟨.inl rfl,hk⟩)))⟩,hg,λ i hi=>by simp[dJ,Nd.c,Nv.dv] at hi,fT,fT,fT⟩
theorem qp{g:Int}(hg:g<=gen)(h1:1<=g):nF gen n (dJ (({Nd.zero with kind:=2,gen:=g}:Nd).c [] []) c).dv :=⟨⟨by simp[tG,Nd.own,Nd.jR,Nd.jP,Nd.zero,dJ,Nd.c,Nv.dv,Nv.nd],by simp[dJ,Nd.c,Nv.dv,Nv.nd,Nd.zero];omega,by simp[dJ,Nd.c,Nv.dv,Nv.nd,Nd.zero],by simp[dJ,Nd.c,Nv.dv,Nv.nd,Nd.zero],.inr (.inl ⟨rfl,h1⟩)⟩,hg,λ i hi=>by simp[dJ,Nd.c,Nv.dv] at hi,fT,fT,fT⟩
theorem qg{b:Nat}{xs:List Int}(hg:0<=gen)(hb:BV b xs)(hx:∀r∈xs,r<=n):nF gen n (dJ (({Nd.zero with kind:=3,bm:=(b:Int)}:Nd).c xs []) c).dv :=
 ⟨⟨by simp[tG,Nd.own,Nd.jR,Nd.jP,Nd.zero,dJ,Nd.c,Nv.dv,Nv.nd],by simp[dJ,Nd.c,Nv.dv,Nv.nd,Nd.zero],by simp[dJ,Nd.c,Nv.dv,Nv.nd,Nd.zero];omega,by simp[dJ,Nd.c,Nv.dv,Nv.nd,Nd.zero],.inr (.inr (.inl ⟨rfl,by show(xs.length:Int)=xK (b:Int);rw[nX hb.lt,hb.len],hb.pos⟩))⟩,hg,λ i hi=>by
  have h1:=hb.pos i hi;have hi':i<xs.length:=hi;refine⟨by show 0<=xs.getD i 0;omega,hx _ ?_⟩;show xs.getD i 0∈xs
  rw[jA,List.getElem?_eq_getElem hi'];exact List.getElem_mem hi',fT,fT,fT⟩
theorem yg{h:Int}{ys:List Pr}(hg:0<=gen)(h2:2<=ys.length)(ha:z7 ys)(hs:Ha ys):nF gen n (dJ (({Nd.zero with kind:=6,hash:=h}:Nd).c [] ys) c).dv :=⟨⟨by simp[tG,Nd.own,Nd.jR,Nd.jP,Nd.zero,dJ,Nd.c,Nv.dv,Nv.nd],by simp[dJ,Nd.c,Nv.dv,Nv.nd,Nd.zero],by simp[dJ,Nd.c,Nv.dv,Nv.nd,Nd.zero];omega,by simp[dJ,Nd.c,Nv.dv,Nv.nd,Nd.zero],.inr (.inr (.inr (.inr (.inl ⟨rfl,h2,ha,hs⟩))))⟩,hg,λ i hi=>by simp[dJ,Nd.c,Nv.dv] at hi,fT,fT,fT⟩
theorem Qg(h:0<=gen):gL [fG.c,fG.c] [] gen:=by
 refine⟨by simp,h,rfl,rfl,λ i hi=>by simp at hi,λ i hi=>?_,by simp[marks,eU,gI,fG,Nd.zero,aR.c,Nd.c,Nv.dv,Nv.nd]⟩;simp only[List.map_cons,List.map_nil,List.length_cons,List.length_nil] at hi;have:i=0∨i=1:=by omega
 rcases this with rfl|rfl;·exact Mq h
 ·exact Mq h
end
end
end Go.Ct
namespace Go.Proofs.YtbajmaoegmbfgaaGreat
open Go.Ct
section
def Mg(k:Int)(r:Int):CT:=if k=2 then .main r else if k=8 then .stat r else .prev r
structure lD(H:ByteArray->Nat)(σ:Kw)(n:Nv)(w:List Nat)(g:Int):Prop where
 kd:n.kind=2∨n.kind=3∨n.kind=4∨n.kind=5∨n.kind=6∨n.kind=7∨n.kind=8
 ok:nF σ.mm.gen (σ.len+1) (dJ n σ.cl).dv
 bd:mT (σ.len+1) (σ.cl+1) (dJ n σ.cl)
 k2:n.kind=2->w.length<=11
 k3:n.kind=3->w.length<=10/\(∀k:Nat,∀b,iO (dJ n σ.cl) k=some b->Mi σ (w++[k]) g b)/\(0<w.length->n.xs≠[]/\∀b,n.xs=[b]->(σ.nd b).kind=2)
 k4:n.kind=4->H n.key=n.hash.toNat
 k5:n.kind=5->0<w.length/\w.length<=11/\H n.key=n.hash.toNat/\fQ n.hash.toNat w
 k6:n.kind=6->w.length=11/\fQ n.hash.toNat w/\∀p∈n.ys,H p.1=n.hash.toNat
 k7:n.kind=7->cB (σ.nd n.bR)
 k8:n.kind=8->uV σ n.bR []/\uV σ n.new []
structure bj(σ:Kw)(n:Nv)(i:Int)(w:List Nat)(g:Int):Prop where
 ins:E3 i σ.len
 k2:n.kind=2->oS σ i w n.gen
 kp:cB n->i=0∨(oS σ i w g/\bC σ i)
 k8:n.kind=8->i=0
section
variable{H:ByteArray->Nat}{σ τ υ:Kw}{r:Int}{w:List Nat}
theorem Zx(n:Nv)(c:Nat):(dJ n c).kind=n.kind:=rfl
theorem gy{n:Nv}{i g:Int}(h:Inv H σ)(hn:lD H σ n w g)(hi:bj σ n i w g):∃υ,Le σ υ/\Inv H υ/\υ.mm=σ.mm.push n i/\υ.nd ((σ.len+1:Nat):Int)=dJ n σ.cl/\υ.way ((σ.len+1:Nat):Int)=w/\υ.gb ((σ.len+1:Nat):Int)=g:=by
 have e:=Ww σ n i w g (Mg n.kind ((σ.len+1:Nat):Int));have l:=e.le;have hnd:=aAB σ n i w g (Mg n.kind ((σ.len+1:Nat):Int));have hway:=uk σ n i w g (Mg n.kind ((σ.len+1:Nat):Int));have hgb:=aBB σ n i w g (Mg n.kind ((σ.len+1:Nat):Int));have hct:=aBQ σ n i w g (Mg n.kind ((σ.len+1:Nat):Int));have hlen:=Wv σ n i w g (Mg n.kind ((σ.len+1:Nat):Int));have hce:=λ h=>aBc σ (n:=n) i w g (Mg n.kind ((σ.len+1:Nat):Int)) h;have hc0:=λ h=>wi σ (n:=n) i w g (Mg n.kind ((σ.len+1:Nat):Int)) h;have hpush:(σ.add n i w g (Mg n.kind ((σ.len+1:Nat):Int))).mm=σ.mm.push n i:=rfl;generalize hυ:σ.add n i w g (Mg n.kind ((σ.len+1:Nat):Int))=υ at *;have hgen:υ.mm.gen=σ.mm.gen:=by rw[hpush];rfl
 have hcl:υ.cl<=σ.cl+1:=by
  by_cases hk:n.kind=2∨n.kind=3∨n.kind=5∨n.kind=6∨n.kind=8;·rw[(hce hk).1];exact Nat.le_refl _
  ·rw[hc0 hk];omega
 have hcl2:(n.kind=2∨n.kind=3∨n.kind=5∨n.kind=6∨n.kind=8)->((σ.cl+1:Nat):Int)=((σ.mm.cs.length+1:Nat):Int):=λ _=>rfl
 have hnd':NdI H υ ((σ.len+1:Nat):Int):=by
  refine⟨by rw[hnd];exact hn.ok.1,by rw[hnd,hgen];exact hn.ok.2.1,?_,λ k=>?_,λ k=>?_,λ k=>?_,λ k=>?_,λ k=>?_,λ k=>?_,λ k=>?_⟩
  ·rw[hnd,hlen];have hb:=hn.bd;by_cases hk:n.kind=2∨n.kind=3∨n.kind=5∨n.kind=6∨n.kind=8
   ·rw[(hce hk).1];exact hb
   ·rw[hc0 hk];refine⟨hb.bR,hb.exp,hb.new,hb.br,?_,?_,?_,hb.bm,hb.hash⟩;·show(if n.kind=2 then _ else(0:Int))<=_;rw[if_neg (by omega)];exact bM _
    ·show(if n.kind=3∨n.kind=5∨n.kind=6 then _ else(0:Int))<=_;rw[if_neg (by omega)];exact bM _
    ·show(if n.kind=8 then _ else(0:Int))<=_;rw[if_neg (by omega)];exact bM _
  all_goals rw[hnd] at k ⊢
  all_goals rw[Zx] at k
  ·rw[hway];refine⟨hn.k2 k,?_⟩;rw[show(dJ n σ.cl).main=((σ.cl+1:Nat):Int) from if_pos k,hct];exact⟨by omega,if_pos k⟩
  ·rw[hway,hgb];obtain⟨h1,h2,h3⟩:=hn.k3 k;rw[show(dJ n σ.cl).prev=((σ.cl+1:Nat):Int) from if_pos (.inl k),hct];refine⟨h1,λ k' b hb=>(h2 k' b hb).up l,λ h0=>⟨(h3 h0).1,λ b hb=>?_⟩,by omega,?_⟩;·have:=(h3 h0).2 b hb;rw[l.nd (eQ (N:=σ.mm.nodes) (i:=b) (by rw[this];decide)).2];exact this
   ·unfold Mg;rw[if_neg (by omega),if_neg (by omega)]
  ·exact hn.k4 k
  ·rw[hway];obtain⟨h1,h2,h3,h4⟩:=hn.k5 k;rw[show(dJ n σ.cl).prev=((σ.cl+1:Nat):Int) from if_pos (.inr (.inl k)),hct];refine⟨h1,h2,h3,h4,by omega,?_⟩;unfold Mg;rw[if_neg (by omega),if_neg (by omega)]
  ·rw[hway];obtain⟨h1,h2,h3⟩:=hn.k6 k;rw[show(dJ n σ.cl).prev=((σ.cl+1:Nat):Int) from if_pos (.inr (.inr k)),hct];refine⟨h1,h2,h3,by omega,?_⟩;unfold Mg;rw[if_neg (by omega),if_neg (by omega)]
  ·have:=hn.k7 k;show cB (υ.nd n.bR);rw[l.nd (iY this).2];exact this
  ·obtain⟨h1,h2⟩:=hn.k8 k;rw[show(dJ n σ.cl).status=((σ.cl+1:Nat):Int) from if_pos k,hct];refine⟨h1.up l,h2.up l,by omega,?_⟩;unfold Mg;rw[if_neg (by omega),if_pos k]
 refine⟨υ,l,?_,hpush,hnd,hway,hgb⟩;rw[<- hυ];refine xx h hn.ok hi.ins (by rw[hυ];exact hnd') (λ hc=>?_) (by rw[hυ];exact hcl);rw[hυ] at hc ⊢;have hk:n.kind=2∨n.kind=3∨n.kind=5∨n.kind=6∨n.kind=8:=Classical.byContradiction λ hk=>by have:=hc0 hk;omega
 have hv:=(hce hk).2;refine⟨by rw[hv];exact hi.ins.1,by rw[hv,hlen];have:=hi.ins.2;omega,λ i' k=>?_,λ m k=>?_,λ d k=>?_,λ k=>?_,λ k=>?_⟩<;>rw[hct] at k<;>rw[hv]
 ·unfold Mg at k;split at k;·rename_i h2;cases k;rw[hnd,hway];exact⟨h2,(hi.k2 h2).up l⟩
  ·split at k<;>cases k
 ·unfold Mg at k;split at k;·cases k
  ·split at k;·cases k
   ·cases k;have hm:cB n:=by unfold cB;omega
    rw[hnd];refine⟨hm,?_⟩;rcases hi.kp hm with h1|⟨h1,h2⟩;·exact .inl h1
    ·exact .inr (.inl ⟨by rw[hway,hgb];exact h1.up l,bC.up h h1.1 h2 l⟩)
 ·unfold Mg at k;split at k;·cases k
  ·split at k;·rename_i h8;exact .inl (hi.k8 h8)
   ·cases k
 ·unfold Mg at k;split at k;·cases k
  ·split at k<;>cases k
 ·unfold Mg at k;split at k;·cases k
  ·split at k<;>cases k
end
end
section
variable{a b gen:Int}{n c:Nat}
theorem dR{p:Prop}(k:a=b)(h:a≠b:=by decide):p:=absurd k h
theorem sv{h u:Int}{k:ByteArray}(hg:0<=gen)(hk:k.size<=64):nF gen n (dJ (({Nd.zero with kind:=5,hash:=h,key:=k,val:=u}:Nd).c [] []) c).dv :=⟨⟨by simp[tG,Nd.own,Nd.jR,Nd.jP,Nd.zero,dJ,Nd.c,Nv.dv,Nv.nd],by simp[dJ,Nd.c,Nv.dv,Nv.nd,Nd.zero],by simp[dJ,Nd.c,Nv.dv,Nv.nd,Nd.zero];omega,by simp[dJ,Nd.c,Nv.dv,Nv.nd,Nd.zero],.inr (.inr (.inr (.inl ⟨.inr rfl,hk⟩)))⟩,hg,λ i hi=>by simp[dJ,Nd.c,Nv.dv] at hi,fT,fT,fT⟩
theorem vd{p:Int}(hg:0<=gen)(h1:1<=p)(h2:p<=n):nF gen n (dJ (yZ p) c).dv :=⟨⟨by simp[tG,Nd.own,Nd.jR,Nd.jP,Nd.zero,dJ,Nd.c,Nv.dv,Nv.nd,yZ],by simp[dJ,Nd.c,Nv.dv,Nv.nd,Nd.zero,yZ],by simp[dJ,Nd.c,Nv.dv,Nv.nd,Nd.zero,yZ],by simp[dJ,Nd.c,Nv.dv,Nv.nd,Nd.zero,yZ],.inr (.inr (.inr (.inr (.inr (.inr ⟨rfl,h1⟩)))))⟩,hg,λ i hi=>by simp[dJ,Nd.c,Nv.dv,yZ] at hi,⟨by show 0<=p;omega,h2⟩,fT,fT⟩
theorem wg{d:Int}(hg:0<=gen)(a1:1<=a)(a2:a<=n)(b1:1<=b)(b2:b<=n)(d1:1<=d)(d2:d<=n):nF gen n (dJ (Ej a b d) c).dv :=⟨⟨by simp[tG,Nd.own,Nd.jR,Nd.jP,Nd.zero,dJ,Nd.c,Nv.dv,Nv.nd,Ej],by simp[dJ,Nd.c,Nv.dv,Nv.nd,Nd.zero,Ej],by simp[dJ,Nd.c,Nv.dv,Nv.nd,Nd.zero,Ej],by simp[dJ,Nd.c,Nv.dv,Nv.nd,Nd.zero,Ej];omega,.inr (.inr (.inr (.inr (.inr (.inl ⟨rfl,b1,d1,a1⟩)))))⟩,hg,λ i hi=>by simp[dJ,Nd.c,Nv.dv,Ej] at hi,⟨by show 0<=a;omega,a2⟩,⟨by show 0<=b;omega,b2⟩,⟨by show 0<=d;omega,d2⟩⟩
theorem zZ{n:Nv}{N:Nat}(h1:n.bR<=N)(h2:n.exp<=N)(h3:n.new<=N)(h4:∀r∈n.xs,r<=N)(hb:∃b:Nat,n.bm=(b:Int)/\b<18446744073709551616)(hh:∃b:Nat,n.hash=(b:Int)/\b<18446744073709551616):mT N (c+1) (dJ n c) :=⟨h1,h2,h3,h4,by show(if n.kind=2 then((c+1:Nat):Int) else 0)<=((c+1:Nat):Int);split<;>omega,by show(if n.kind=3∨n.kind=5∨n.kind=6 then((c+1:Nat):Int) else 0)<=((c+1:Nat):Int);split<;>omega,by show(if n.kind=8 then((c+1:Nat):Int) else 0)<=((c+1:Nat):Int);split<;>omega,hb,hh⟩
theorem jV:∃b:Nat,(0:Int)=(b:Int)/\b<18446744073709551616:=⟨0,rfl,by decide⟩
section
variable{H:ByteArray->Nat}{σ τ υ:Kw}{r:Int}{w:List Nat}
theorem qz{p g:Int}(h:Inv H σ)(hp:cB (σ.nd p)):lD H σ (yZ p) w g:=by
 have hr:1<=p/\p<=σ.len:=iY hp
 exact⟨.inr (.inr (.inr (.inr (.inr (.inl rfl))))),vd h.gen hr.1 (by have:=hr.2;omega),zZ (by show p<=_;have:=hr.2;omega) (bM _) (bM _) (λ r hr=>nomatch hr) jV jV,
  λ k=>dR (a:=7) (b:=2) k,λ k=>dR (a:=7) (b:=3) k,λ k=>dR (a:=7) (b:=4) k,λ k=>dR (a:=7) (b:=5) k,λ k=>dR (a:=7) (b:=6) k,λ _=>hp,λ k=>dR (a:=7) (b:=8) k⟩
theorem Cv{g g':Int}(hw:w.length<=11)(h1:1<=g')(h2:g'<=σ.mm.gen):lD H σ (nL g') w g :=
 ⟨.inl rfl,qp h2 h1,zZ (bM _) (bM _) (bM _) (λ r hr=>nomatch hr) jV jV,
  λ _=>hw,λ k=>dR (a:=2) (b:=3) k,λ k=>dR (a:=2) (b:=4) k,λ k=>dR (a:=2) (b:=5) k,λ k=>dR (a:=2) (b:=6) k,λ k=>dR (a:=2) (b:=7) k,λ k=>dR (a:=2) (b:=8) k⟩
theorem od{a b d g:Int}(h:Inv H σ)(ha:uV σ a [])(hb1:1<=b)(hb2:b<=σ.len)(hd:uV σ d []):lD H σ (Ej a b d) w g:=by
 have h1:=ha.in;have h2:=hd.in
 exact⟨.inr (.inr (.inr (.inr (.inr (.inr rfl))))),wg h.gen h1.1 (by omega) hb1 (by omega) h2.1 (by omega),zZ (by show a<=_;omega) (by show b<=_;omega) (by show d<=_;omega) (λ r hr=>nomatch hr) jV jV,
  λ k=>dR (a:=8) (b:=2) k,λ k=>dR (a:=8) (b:=3) k,λ k=>dR (a:=8) (b:=4) k,λ k=>dR (a:=8) (b:=5) k,λ k=>dR (a:=8) (b:=6) k,λ k=>dR (a:=8) (b:=7) k,λ _=>⟨ha,hd⟩⟩
theorem B3{h:Nat}{k:ByteArray}{u g:Int}(i:Inv H σ)(hk:k.size<=64)(hh:H k=h)(hl:h<18446744073709551616):lD H σ (zP h k u) w g :=
 ⟨.inr (.inr (.inl rfl)),Y3 i.gen hk,zZ (bM _) (bM _) (bM _) (λ r hr=>nomatch hr) jV ⟨h,rfl,hl⟩,
  λ k=>dR (a:=4) (b:=2) k,λ k=>dR (a:=4) (b:=3) k,λ _=>hh,λ k=>dR (a:=4) (b:=5) k,λ k=>dR (a:=4) (b:=6) k,λ k=>dR (a:=4) (b:=7) k,λ k=>dR (a:=4) (b:=8) k⟩
def jx(h:Int)(k:ByteArray)(u:Int):Nv:=({Nd.zero with kind:=5,hash:=h,key:=k,val:=u}:Nd).c [] []
theorem I1{h:Nat}{k:ByteArray}{u g:Int}(i:Inv H σ)(hk:k.size<=64)(hh:H k=h)(hl:h<18446744073709551616)(w0:0<w.length)(w1:w.length<=11)(hu:fQ h w):lD H σ (jx h k u) w g :=
 ⟨.inr (.inr (.inr (.inl rfl))),sv i.gen hk,zZ (bM _) (bM _) (bM _) (λ r hr=>nomatch hr) jV ⟨h,rfl,hl⟩,
  λ k=>dR (a:=5) (b:=2) k,λ k=>dR (a:=5) (b:=3) k,λ k=>dR (a:=5) (b:=4) k,λ _=>⟨w0,w1,hh,hu⟩,λ k=>dR (a:=5) (b:=6) k,λ k=>dR (a:=5) (b:=7) k,λ k=>dR (a:=5) (b:=8) k⟩
def Wg(h:Int)(ys:List Pr):Nv:=({Nd.zero with kind:=6,hash:=h}:Nd).c [] ys
variable{g x:Int}{xs:List Int}{k:Nat}{v:Nv}
theorem Gk{h:Nat}{ys:List Pr}(i:Inv H σ)(h2:2<=ys.length)(ha:z7 ys)(hs:Ha ys)(hh:∀p∈ys,H p.1=h)(hl:h<18446744073709551616)(w1:w.length=11)(hu:fQ h w):lD H σ (Wg h ys) w g :=
 ⟨.inr (.inr (.inr (.inr (.inl rfl)))),yg i.gen h2 ha hs,zZ (bM _) (bM _) (bM _) (λ r hr=>nomatch hr) jV ⟨h,rfl,hl⟩,
  λ k=>dR (a:=6) (b:=2) k,λ k=>dR (a:=6) (b:=3) k,λ k=>dR (a:=6) (b:=4) k,λ k=>dR (a:=6) (b:=5) k,λ _=>⟨w1,hu,hh⟩,λ k=>dR (a:=6) (b:=7) k,λ k=>dR (a:=6) (b:=8) k⟩
theorem Oa{m:Nat->Option Int}{x:Int}:∀{k:Nat},x∈oC m k->∃j,j<k/\m j=some x
 | 0,h=>nomatch h
 | k+1,h=>by
  simp only[oC,List.mem_append,Option.mem_toList] at h;rcases h with h|h;·obtain⟨j,h1,h2⟩:=Oa h;exact⟨j,by omega,h2⟩
  ·exact⟨k,Nat.lt_succ_self k,h⟩
theorem M9{b:Nat}(h:BV b xs)(hx:x∈xs):∃j,j<64/\nY b xs j=some x:=by rw[<- (Uu h).2] at hx;exact Oa hx
theorem X8{b:Nat}(h:BV b xs)(hk:k<64)(hx:nY b xs k=some x):x∈xs:=by
 unfold nY at hx;split at hx;·rename_i hb;cases hx;exact Di (by rw[h.len];exact pV hk hb)
 ·cases hx
theorem aA9(hk:64<=k):iO v (k:Int)=none:=by unfold iO Ew;rw[Wr _ (by omega)];simp
theorem L8(hcv:CV v.nd v.xs v.ys)(hk:k<64):iO v (k:Int)=nY v.bm.toNat v.xs k:=Yc hcv hk
theorem Mi.le{g' b:Int}(h:Mi σ w g b)(hg:g<=g'):Mi σ w g' b:=by
 rcases h with h|h;·exact .inl h
 ·exact .inr ⟨h.1,h.2.1,Int.le_trans h.2.2 hg⟩
theorem Mi.in{b:Int}(h:Mi σ w g b):1<=b/\b<=σ.len:=by rcases h with h|h<;>exact eQ (N:=σ.mm.nodes) (i:=b) (by rw[h.1];decide)
theorem nP{b:Nat}(i:Inv H σ)(hb:BV b xs)(hx:∀k:Nat,k<64->∀r,nY b xs k=some r->Mi σ (w++[k]) g r)(hw:w.length<=10)(h0:0<w.length->xs≠[]/\∀b,xs=[b]->(σ.nd b).kind=2):lD H σ (B7 b xs) w g:=by
 have hr:∀r∈xs,1<=r/\r<=σ.len:=λ r hr=>by obtain⟨j,h1,h2⟩:=M9 hb hr;exact(hx j h1 r h2).in
 have hok:nF σ.mm.gen (σ.len+1) (dJ (B7 b xs) σ.cl).dv:=qg i.gen hb (λ r h=>by have:=(hr r h).2;omega)
 refine⟨.inr (.inl rfl),hok,zZ (bM _) (bM _) (bM _) (λ r h=>by have:=(hr r h).2;omega) ⟨b,rfl,hb.lt⟩ jV,
  λ k=>dR (a:=3) (b:=2) k,λ _=>⟨hw,λ k r hk=>?_,h0⟩,λ k=>dR (a:=3) (b:=4) k,λ k=>dR (a:=3) (b:=5) k,λ k=>dR (a:=3) (b:=6) k,λ k=>dR (a:=3) (b:=7) k,λ k=>dR (a:=3) (b:=8) k⟩
 by_cases h64:k<64;·rw[L8 (v:=dJ (B7 b xs) σ.cl) ⟨rfl,hok.1⟩ h64] at hk;exact hx k h64 r hk
 ·rw[aA9 (by omega)] at hk;cases hk
structure nJ(σ:Kw)(m:Int)(w:List Nat)(g:Int)(b:Nat)(xs:List Int):Prop where
 kd:(σ.nd m).kind=3
 bm:(σ.nd m).bm.toNat=b
 el:(σ.nd m).xs=xs
 cv:CV (σ.nd m).nd (σ.nd m).xs (σ.nd m).ys
 bv:BV b xs
 wl:w.length<=10
 br:∀k:Nat,k<64->∀r,nY b xs k=some r->Mi σ (w++[k]) g r
 ne:0<w.length->xs≠[]/\∀b,xs=[b]->(σ.nd b).kind=2
theorem oS.qT{m g:Int}(i:Inv H σ)(h:oS σ m w g)(k:(σ.nd m).kind=3):nJ σ m w g (σ.nd m).bm.toNat (σ.nd m).xs:=by
 have hr:=h.in;have hn:=i.nd m hr.1 hr.2;obtain⟨h1,h2,h3,_⟩:=hn.k3 k
 have hcv:CV (σ.nd m).nd (σ.nd m).xs (σ.nd m).ys:=⟨k,hn.valid⟩;obtain⟨b,hb1,hb2⟩:=hn.bd.bm;have hb:(σ.nd m).bm.toNat=b:=by omega
 rw[h.2.1] at h1 h2 h3;refine⟨k,rfl,rfl,hcv,by rw[hb];exact hcv.bv hb1 hb2,h1,λ k' hk r hr=>?_,h3⟩;exact(h2 k' r (by rw[L8 hcv hk];exact hr)).le h.2.2
theorem nJ.lk{m g:Int}{b:Nat}{xs:List Int}(h:nJ σ m w g b xs){k:Nat}(hk:k<64):iO (σ.nd m) (k:Int)=nY b xs k:=by rw[L8 h.cv hk,h.bm,h.el]
theorem nJ.up{m g r:Int}{b:Nat}{xs:List Int}(h:nJ σ m w g b xs){k:Nat}(hk:k<64){o:Int}(ho:iO (σ.nd m) (k:Int)=some o)(hr:1<=r):T4 (σ.nd m) (k:Int) r=B7 b (rT xs (fP b k) r)/\BV b (rT xs (fP b k) r)/\(∀j,j<64->nY b (rT xs (fP b k) r) j=Lw (nY b xs) k (some r) j)/\fP b k<xs.length:=by
 rw[h.lk hk] at ho;have hb:b.testBit k=true:=by unfold nY at ho;split at ho;assumption;cases ho
 have hu:=Un h.bv hk hb hr;refine⟨?_,hu.1,hu.2,by rw[h.bv.len];exact pV hk hb⟩;unfold T4 sm;rw[if_pos ⟨h.cv,hr,by rw[h.bm,rA b hk];exact hb⟩,h.bm,h.el,oO b hk];rfl
theorem nJ.ins{m g r:Int}{b:Nat}{xs:List Int}(h:nJ σ m w g b xs){k:Nat}(hk:k<64)(ho:iO (σ.nd m) (k:Int)=none)(hr:1<=r):gj (σ.nd m) (k:Int) r=B7 (b ||| 2^k) (uY xs (fP b k) r)/\BV (b ||| 2^k) (uY xs (fP b k) r)/\(∀j,j<64->nY (b ||| 2^k) (uY xs (fP b k) r) j=Lw (nY b xs) k (some r) j)/\(uY xs (fP b k) r).length=xs.length+1:=by
 rw[h.lk hk] at ho;have hb:b.testBit k=false:=by
  unfold nY at ho;cases hb:b.testBit k with
  | false=>rfl
  | true=>rw[hb] at ho;simp at ho
 have hu:=Ix h.bv hk hb hr;refine⟨?_,hu.1,hu.2,F5 (by rw[h.bv.len];have:=xI b k (64-k);rwa [show k+(64-k)=64 by omega] at this) r⟩;unfold gj lu;rw[if_pos ⟨h.cv,⟨by omega,by omega⟩,hr,by rw[h.bm,rA b hk];exact hb⟩,h.bm,h.el,oO b hk,qQ b hk];rfl
theorem nJ.re{m g:Int}{b:Nat}{xs:List Int}(h:nJ σ m w g b xs){k:Nat}(hk:k<64){o:Int}(ho:iO (σ.nd m) (k:Int)=some o):O2 (σ.nd m) (k:Int)=B7 (b ^^^ (b &&& 2^k)) (tD xs (fP b k))/\BV (b ^^^ (b &&& 2^k)) (tD xs (fP b k))/\(∀j,j<64->nY (b ^^^ (b &&& 2^k)) (tD xs (fP b k)) j=Lw (nY b xs) k none j)/\(tD xs (fP b k)).length+1=xs.length:=by
 rw[h.lk hk] at ho;have hb:b.testBit k=true:=by unfold nY at ho;split at ho;assumption;cases ho
 have hu:=U7 h.bv hk hb;refine⟨?_,hu.1,hu.2,Hy (by rw[h.bv.len];exact pV hk hb)⟩;unfold O2 sr;rw[if_pos ⟨h.cv,by rw[h.bm,rA b hk];exact hb⟩,h.bm,h.el,oO b hk,uL b hk];rfl
end
end
end Go.Proofs.YtbajmaoegmbfgaaGreat
