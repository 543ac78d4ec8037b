/- Worlds: the call of an operation. -/
import Derived.Test.YtadnboagdhcedaaGreatDoorGWo3
import Derived.Test.YtadnboagdhcedaaGreatDoorGAr9
import Derived.Test.YtadnboagdhcedaaGreatDoorGEx18
import Derived.Test.YtadnboagdhcedaaGreatDoorGKw5

set_option linter.unusedSimpArgs false
set_option linter.unusedVariables false
namespace Go.Proofs.YtadnboagdhcedaaGreatDoor
section
open Go Go.RowKit Go.Ct
theorem qx{ts:List eA}{j:Nat}(h:j<ts.length):((sN ts).drop (2*j)).take 2=[.int .i64 (ts.getD j ⟨0,false⟩).root,.bool (ts.getD j ⟨0,false⟩).ro]:=by
 induction ts generalizing j with
 | nil=>simp at h
 | cons t ts ih =>
  cases j with
  | zero=>simp[sN]
  | succ j =>
   have:=ih (j:=j) (by simpa using h)
   rw[show 2*(j+1)=2*j+1+1 by omega]
   simpa[sN] using this
section
variable{P:Program}{S:List (Nat×Value)}{d:Nat}{ty t t' e:TypeId}{pos:String}{af:Array Edge}{gd:Option (Nat×Bool)}{x y:Operand}{w0 w:World}{M:List Nat}{H:List (Nat×Obj)}{A F:Fr}{O:List Ow}{a:Option Addr}
theorem Pu{ts:List eA}{q:Nat}(hx:ev S x=.pointer (some ⟨cR a,dX a+2*q,none⟩))(ht:jP P t 2=true)(hf:pI A F O a (sN ts))(hq:q<ts.length) :
  aJ P S (SF w0 M H A F O) ⟨some d,.load t x,ty,pos,af,gd⟩ (.agg ⟨[.int .i64 (ts.getD q ⟨0,false⟩).root,.bool (ts.getD q ⟨0,false⟩).ro]⟩):=ba hx ht hf (qx hq) rfl
end
structure Dw where
 key:ByteArray
 val:Int
 exp:Int
 Ge:Int
 only:Bool
 t:eA
 pos:Nat
def Dw.cl(q:Dw)(kind mask:Int):Cl:=⟨kind,q.t,0,0,0,0,0,mask,q.key,q.val,q.exp,q.Ge,q.only⟩
def wrK(kind:Int):Prop:=kind=8∨kind=9∨kind=12∨kind=4
structure Kt(kind:Int)(ts:List eA)(q:Dw):Prop where
 ky:q.key∈jI
 mem:q.t∈ts
 ro:wrK kind->q.t.ro=false
theorem oB{v:Nat}(h:v<8):jI.getD v ⟨#[]⟩∈jI:=by
 have:v=0∨v=1∨v=2∨v=3∨v=4∨v=5∨v=6∨v=7:=by omega
 rcases this with rfl|rfl|rfl|rfl|rfl|rfl|rfl|rfl<;>simp[jI]
theorem Cv{ts:List eA}{j:Nat}(h:j<ts.length):ts.getD j ⟨0,false⟩∈ts:=by
 rw[fM,List.getElem?_eq_getElem h];exact List.getElem_mem h
section
variable{P:Program}{S:List (Nat×Value)}{G:World->Prop}{d:Nat}{ty t t':TypeId}{pos:String}{af:Array Edge}{gd:Option (Nat×Bool)}{x y:Operand}
theorem vr{a b:Nat}(hx:ev S x=.int .i64 ((a:Nat):Int))(hy:ev S y=.int .i64 ((b:Nat):Int))(h0:b≠0):aJ P S G ⟨some d,.binOp .rem t x y t',ty,pos,af,gd⟩ (.int .i64 ((a%b:Nat):Int)):=by
 have:=X3 (P:=P) (G:=G) (d:=d) (ty:=ty) (pos:=pos) (af:=af) (gd:=gd) (t:=t) (t':=t') hx hy (by omega)
 rwa [Int.tmod_eq_emod_of_nonneg (by omega),<- Int.natCast_emod] at this
end
section
variable{bw bm tb:Nat}{D:List Nat}{A:Fr}{w:World}{mask:Int}{ts:List eA}{pt pe:Option Addr}{kt ke ne:Nat}{l:List Int}{a:Option Addr}{c p:Nat}
set_option maxRecDepth 100000 in
set_option maxHeartbeats 2000000 in
theorem ig(kind:Int)(hkd:7<=kind/\kind<=12)(hl:l.length<=17592186043904)(h0:0<ts.length)(hts:ts.length<=1000)(hr0:(ts.getD 0 ⟨0,false⟩).ro=false)
  (hs:SF w D [(tb,Oa a l c p),(bw,nK bm mask pt ts.length kt pe ne ke)] [(a,aG l)] [] [⟨pt,sN ts,kt,29,2⟩] w) :
  Calls Tryz.prog 27 #[.pointer (some ⟨bw,0,none⟩),.int .i64 kind,.pointer (some ⟨tb,0,none⟩)] w λ e w'=>∃q:Dw,e=.returned (.agg ⟨Nq (q.cl kind mask)⟩)/\Kt kind ts q /\
   SF w D [(tb,Oa a l c q.pos),(bw,nK bm mask pt ts.length kt pe ne ke)] [] [] [⟨pt,sN ts,kt,29,2⟩] w':=by
 refine enter Tryz.func27 Tryz.ntmps27 rfl rfl hs ?_
 simp only[cP]
 refine J0 ?_;refine aP (λ x6=>?_);refine Ug ?_
 refine dV [7,12,13,14,15,16,17,18,19,20,21,22,23,24,25,26,27,28,29,30] (λ y:Nat×Dw=>[(7,.pointer (some ⟨y.1,0,none⟩))]) (λ y=>y.2.key∈jI) (λ y=>[(y.1,.cells ⟨Nq (y.2.cl kind mask)⟩ 70 (0,0)),(x6,.cells ⟨Nq ⟨0,⟨0,false⟩,0,0,0,0,0,0,⟨#[]⟩,0,0,0,false⟩⟩ 70 (0,0)),(tb,Oa a l c y.2.pos),(bw,nK bm mask pt ts.length kt pe ne ke)]) (λ _=>[]) (λ _=>[⟨pt,sN ts,kt,29,2⟩]) (by decide) (λ _=>by exact rfl) ?_ (λ y f hx=>?_)
 ·refine gK (.one 0 [] (.one 1 [] (.one 2 [] (.one 3 [] (.one 4 [] (.one 5 [] (.one 7 [] (.one 10 [] (.one 13 [] (.one 15 [] (.two 6 [4] (.two 8 [4] (.one 9 [] (.two 11 [4] (.one 12 [] (.two 14 [4] (.two 16 [4] (.one 17 [] (.one 18 [] (.one 19 [4] (.one 20 [] .nil)))) 0 [] (.two 19 [4] (.one 16 [4] (.one 17 [] (.one 18 [] (.one 20 [] .nil)))) 0 [] .nil)) 0 [] (.two 19 [4] (.one 14 [4] (.one 16 [4] (.one 17 [] (.one 18 [] (.one 20 [] .nil))))) 0 [] .nil))) 0 [] (.two 19 [4] (.one 11 [4] (.one 12 [] (.one 14 [4] (.one 16 [4] (.one 17 [] (.one 18 [] (.one 20 [] .nil))))))) 0 [] .nil))) 0 [] (.two 19 [4] (.one 8 [4] (.one 9 [] (.one 11 [4] (.one 12 [] (.one 14 [4] (.one 16 [4] (.one 17 [] (.one 18 [] (.one 20 [] .nil))))))))) 0 [] .nil)) 0 [] (.two 19 [4] (.one 6 [4] (.one 8 [4] (.one 9 [] (.one 11 [4] (.one 12 [] (.one 14 [4] (.one 16 [4] (.one 17 [] (.one 18 [] (.one 20 [] .nil)))))))))) 0 [] .nil)))))))))))) ?_
  refine uo ?_;refine gN ?_;refine gN ?_;refine aS ?_
  refine gY (E:=[6,19]) (by decide +kernel) ((.cons ?_ (.cons ?_ .nil)))
  ·refine kU (i:=6) (hq:=(vY (hc:=λ w1 hw=>pf (hw.tape dU fin hl)))) (h:=λ x18 h18=>?_)
   refine gY (E:=[8,19]) (by decide +kernel) ((.cons ?_ (.cons ?_ .nil)))
   ·refine kU (i:=8) (hq:=(vY (hc:=λ w1 hw=>eI 6 (hw.tape dU fin hl) (by decide) (by decide)))) (h:=λ x20 h20=>?_)
    refine lP ?_
    refine gY (E:=[11,19]) (by decide +kernel) ((.cons ?_ (.cons ?_ .nil)))
    ·refine kU (i:=11) (hq:=(vY (hc:=λ w1 hw=>eI 6 (hw.tape dU fin hl) (by decide) (by decide)))) (h:=λ x23 h23=>?_)
     refine lP ?_
     refine gY (E:=[14,19]) (by decide +kernel) ((.cons ?_ (.cons ?_ .nil)))
     ·refine kU (i:=14) (hq:=(vY (hc:=λ w1 hw=>eI 4 (hw.tape dU fin hl) (by decide) (by decide)))) (h:=λ x26 h26=>?_)
      refine gY (E:=[16,19]) (by decide +kernel) ((.cons ?_ (.cons ?_ .nil)))
      ·refine kU (i:=16) (hq:=(vY (hc:=λ w1 hw=>eI 3 (hw.tape dU fin hl) (by decide) (by decide)))) (h:=λ x28 h28=>?_)
       refine mK ?_;refine jF ?_;refine fS (h:=λ x7=>?_);refine zG ?_
       refine eO ((x7,⟨jI.getD x18 ⟨#[]⟩,((x20:Nat):Int),((x23:Nat):Int),((x26:Nat):Int),((x28:Nat):Int)==0,⟨0,false⟩,mY l (mY l (mY l (mY l (mY l p))))⟩)) ?_
       ·exact oB h18.1
      ·refine gB (i:=19) (h:=λ x7=>?_)
       refine bC (i:=16) (hq:=(vY (hc:=λ w1 hw=>eI 3 (hw.tape dU fin hl) (by decide) (by decide)))) (h:=λ x28 h28=>?_);refine mK ?_;refine jF ?_;refine zG ?_
       refine eO ((x7,⟨jI.getD x18 ⟨#[]⟩,((x20:Nat):Int),((x23:Nat):Int),((x26:Nat):Int),((x28:Nat):Int)==0,⟨0,false⟩,mY l (mY l (mY l (mY l (mY l p))))⟩)) ?_
       ·exact oB h18.1
     ·refine gB (i:=19) (h:=λ x7=>?_)
      refine bC (i:=14) (hq:=(vY (hc:=λ w1 hw=>eI 4 (hw.tape dU fin hl) (by decide) (by decide)))) (h:=λ x26 h26=>?_);refine bC (i:=16) (hq:=(vY (hc:=λ w1 hw=>eI 3 (hw.tape dU fin hl) (by decide) (by decide)))) (h:=λ x28 h28=>?_);refine mK ?_;refine jF ?_;refine zG ?_
      refine eO ((x7,⟨jI.getD x18 ⟨#[]⟩,((x20:Nat):Int),((x23:Nat):Int),((x26:Nat):Int),((x28:Nat):Int)==0,⟨0,false⟩,mY l (mY l (mY l (mY l (mY l p))))⟩)) ?_
      ·exact oB h18.1
    ·refine gB (i:=19) (h:=λ x7=>?_)
     refine bC (i:=11) (hq:=(vY (hc:=λ w1 hw=>eI 6 (hw.tape dU fin hl) (by decide) (by decide)))) (h:=λ x23 h23=>?_);refine lP ?_;refine bC (i:=14) (hq:=(vY (hc:=λ w1 hw=>eI 4 (hw.tape dU fin hl) (by decide) (by decide)))) (h:=λ x26 h26=>?_);refine bC (i:=16) (hq:=(vY (hc:=λ w1 hw=>eI 3 (hw.tape dU fin hl) (by decide) (by decide)))) (h:=λ x28 h28=>?_);refine mK ?_;refine jF ?_;refine zG ?_
     refine eO ((x7,⟨jI.getD x18 ⟨#[]⟩,((x20:Nat):Int),((x23:Nat):Int),((x26:Nat):Int),((x28:Nat):Int)==0,⟨0,false⟩,mY l (mY l (mY l (mY l (mY l p))))⟩)) ?_
     ·exact oB h18.1
   ·refine gB (i:=19) (h:=λ x7=>?_)
    refine bC (i:=8) (hq:=(vY (hc:=λ w1 hw=>eI 6 (hw.tape dU fin hl) (by decide) (by decide)))) (h:=λ x20 h20=>?_);refine lP ?_;refine bC (i:=11) (hq:=(vY (hc:=λ w1 hw=>eI 6 (hw.tape dU fin hl) (by decide) (by decide)))) (h:=λ x23 h23=>?_);refine lP ?_;refine bC (i:=14) (hq:=(vY (hc:=λ w1 hw=>eI 4 (hw.tape dU fin hl) (by decide) (by decide)))) (h:=λ x26 h26=>?_);refine bC (i:=16) (hq:=(vY (hc:=λ w1 hw=>eI 3 (hw.tape dU fin hl) (by decide) (by decide)))) (h:=λ x28 h28=>?_);refine mK ?_;refine jF ?_;refine zG ?_
    refine eO ((x7,⟨jI.getD x18 ⟨#[]⟩,((x20:Nat):Int),((x23:Nat):Int),((x26:Nat):Int),((x28:Nat):Int)==0,⟨0,false⟩,mY l (mY l (mY l (mY l (mY l p))))⟩)) ?_
    ·exact oB h18.1
  ·refine gB (i:=19) (h:=λ x7=>?_)
   refine bC (i:=6) (hq:=(vY (hc:=λ w1 hw=>pf (hw.tape dU fin hl)))) (h:=λ x18 h18=>?_);refine bC (i:=8) (hq:=(vY (hc:=λ w1 hw=>eI 6 (hw.tape dU fin hl) (by decide) (by decide)))) (h:=λ x20 h20=>?_);refine lP ?_;refine bC (i:=11) (hq:=(vY (hc:=λ w1 hw=>eI 6 (hw.tape dU fin hl) (by decide) (by decide)))) (h:=λ x23 h23=>?_);refine lP ?_;refine bC (i:=14) (hq:=(vY (hc:=λ w1 hw=>eI 4 (hw.tape dU fin hl) (by decide) (by decide)))) (h:=λ x26 h26=>?_);refine bC (i:=16) (hq:=(vY (hc:=λ w1 hw=>eI 3 (hw.tape dU fin hl) (by decide) (by decide)))) (h:=λ x28 h28=>?_);refine mK ?_;refine jF ?_;refine zG ?_
   refine eO ((x7,⟨jI.getD x18 ⟨#[]⟩,((x20:Nat):Int),((x23:Nat):Int),((x26:Nat):Int),((x28:Nat):Int)==0,⟨0,false⟩,mY l (mY l (mY l (mY l (mY l p))))⟩)) ?_
   ·exact oB h18.1
 dsimp only[fY,List.map,List.cons_append,List.nil_append]
 have hy:=hx
 refine J2 ?_;refine lH ?_;refine aB ?_
 (refine eF 33 (λ g33=>?_) (λ g33=>?_)<;>(try (exfalso;omega))<;>((refine Ka4 ?_)))
 ((refine aF ?_;refine lH ?_));refine cH ?_;refine Ka3 ?_;refine lH ?_;refine aB ?_
 (refine eF 39 (λ g39=>?_) (λ g39=>?_)<;>refine Ka0 ?_)
 all_goals ((first|refine aH ?_|(refine aF ?_;refine lH ?_));refine Kc1 ?_)
 all_goals (first|refine aH ?_|(refine eF 43 (λ g43=>?_) (λ g43=>?_)<;>refine Ka0 ?_))
 all_goals ((first|refine aH ?_|(refine aF ?_;refine lH ?_));refine Kc1 ?_)
 all_goals (first|refine aH ?_|(refine eF 47 (λ g47=>?_) (λ g47=>?_)<;>refine Ka0 ?_))
 all_goals ((first|refine aH ?_|(refine aF ?_;refine lH ?_));refine cH ?_;refine sV ?_;refine dL ?_;refine Mx ?_;refine aC (vY (hc:=λ w1 hw=>eI ts.length (hw.tape dU fin hl) (by omega) (by omega))) (λ x57 h57=>?_);refine gP ?_;refine Gh ?_)
 all_goals
 refine lE [11,58,59,60,61,62,63,64,65,66,67,68,69,70,71,72,73,74,75,76,77,78,79,80,81,82,83,84,85,86,87,88,89,90,91,92,93,94,95,96,97,98,99,100] (λ z:Nat×eA=>[(11,.int .i64 ((z.1:Nat):Int))]) (λ z=>z.1<=ts.length) (λ z=>[(y.1,.cells ⟨Nq (({y.2 with t:=z.2}:Dw).cl kind mask)⟩ 70 (0,0)),(x6,.cells ⟨Nq ⟨0,⟨0,false⟩,0,0,0,0,0,0,⟨#[]⟩,0,0,0,false⟩⟩ 70 (0,0)),(tb,Oa a l c (mY l y.2.pos)),(bw,nK bm mask pt ts.length kt pe ne ke)]) (λ _=>_) (λ _=>_) (λ z=>ts.length-z.1) ((0,y.2.t)) (Nat.zero_le _) (λ z f hx=>?_)
 dsimp only[fY,List.map,List.cons_append,List.nil_append]
 all_goals (refine Fz ?_;refine dL ?_;refine Mx ?_;refine vV ?_)
 all_goals
  refine aZ (λ c64=>?_) (λ c64=>?_)
  ·all_goals try (exfalso;omega)
   all_goals (refine oE ?_;refine aR ?_;refine fK [0,1,2,3,4,5,6,7,8,9,10,11,12,13,14,15,16] ?_;refine du ?_;refine gN ?_;refine cJ (i:=6) (hq:=(lU (m:=x57) (n:=z.1) rf rf (by omega))) (h:=?_);refine du ?_;refine lK ?_;refine cJ (i:=12) (hq:=(vr (a:=x57+z.1) (b:=ts.length) rf rf (by omega))) (h:=?_);refine bH (i:=13) (hq:=(df (cs:=sN ts) (k:=(x57+z.1)%ts.length) rf rf fE fX fin (Nat.mod_lt _ h0) (by rw[oW];have:=Nat.mod_lt (x57+z.1) h0;omega))) (h:=?_);refine bH (i:=14) (hq:=(Pu (ts:=ts) (q:=(x57+z.1)%ts.length) rf fX fin (Nat.mod_lt _ h0))) (h:=?_);refine aM ?_;refine lX (i:=16) (hq:=(sW λ _=>pJ (off:=1) (vs:=[.int .i64 (ts.getD ((x57+z.1)%ts.length) ⟨0,false⟩).root,.bool (ts.getD ((x57+z.1)%ts.length) ⟨0,false⟩).ro]) rf dU rf rfl fX (Nat.le_of_ble_eq_true rfl) rf xA)) (h:=λ _=>?_);refine dW ?_;refine J0 ?_;refine Kb7 ?_;refine aB ?_)
   all_goals ((refine eF 86 (λ g86=>?_) (λ g86=>?_)<;>refine Ka0 ?_))
   all_goals ((first|refine aH ?_|(refine aF ?_;refine wF ?_));refine Kc1 ?_)
   all_goals (first|(refine aF ?_;refine aD ?_)|(refine eF 90 (λ g90=>?_) (λ g90=>?_)<;>(try (exfalso;omega))<;>(refine aH ?_)))
   all_goals (refine Ka1 ?_;refine Ka2 ?_;(first|refine aH ?_|(refine aF ?_;refine wF ?_));refine Ka0 ?_)
   all_goals (first|refine yC ?_|(refine eF 95 (λ g95=>?_) (λ g95=>?_)<;>refine Ka0 ?_))
   all_goals ((first|refine aH ?_|refine yC ?_|(refine aF ?_;refine wF ?_));(first|refine aH ?_|(refine aF ?_;refine cH ?_));refine cH ?_;refine aI ?_)
   all_goals
   refine aZ (λ c99=>?_) (λ c99=>?_)
   ·try exact nv c99
    all_goals (refine Ka9 ?_)
    all_goals
     refine bK Tryz.results27 (λ w hw=>?_)
     exact⟨{y.2 with t:=ts.getD ((x57+z.1)%ts.length) ⟨0,false⟩,pos:=mY l y.2.pos},rfl,⟨hy,Cv (Nat.mod_lt _ h0),λ hk=>by first|(simp_all;done)|(unfold wrK at hk;exfalso;omega)⟩,hw.aT⟩
   ·try exact nv c99
    all_goals try (exfalso;omega)
    all_goals (refine lM ?_;refine Ab ?_)
    all_goals
     refine gC ((z.1+1,ts.getD ((x57+z.1)%ts.length) ⟨0,false⟩)) ?_
     ·omega
  ·all_goals try (exfalso;omega)
   all_goals (refine bI rfl ?_;refine nA ?_;refine aE (df (cs:=sN ts) (k:=0) rf rf fE fX fin h0 (by rw[oW];omega)) rfl ?_;refine aE (Pu (ts:=ts) (q:=0) rf fX fin h0) rfl ?_;refine aD ?_;refine kA (sW λ _=>pJ (off:=1) (vs:=[.int .i64 (ts.getD 0 ⟨0,false⟩).root,.bool (ts.getD 0 ⟨0,false⟩).ro]) rf dU rf rfl fX (Nat.le_of_ble_eq_true rfl) rf xA) (λ _=>?_);refine aI ?_;refine Ka9 ?_)
   all_goals
   refine bK Tryz.results27 (λ w hw=>?_)
   exact⟨{y.2 with t:=ts.getD 0 ⟨0,false⟩,pos:=mY l y.2.pos},rfl,⟨hy,Cv h0,λ _=>hr0⟩,hw.aT⟩
end
end

/- What a step of one's own changes. -/
section
open Go Go.RowKit Go.Ct
section
variable{H:ByteArray->Nat}{σ τ υ:Kw}
structure Z1(H:ByteArray->Nat)(σ υ:Kw)(c v:Int):Prop where
 le:Le σ υ
 inv:Inv H υ
 at':υ.ce c=v
 other:∀x,x≠c->υ.ce x=σ.ce x
def Ga(σ τ:Kw)(i:Int):Prop:=∀c:Int,1<=c->c<=σ.cl->σ.ct c≠.main i->(∀m,σ.ct c≠.prev m)->τ.ce c=σ.ce c
theorem Ga.refl(σ:Kw)(i:Int):Ga σ σ i:=λ _ _ _ _ _=>rfl
theorem Ga.trans{i:Int}(l:Le σ τ)(h:Ga σ τ i)(h2:Ga τ υ i):Ga σ υ i:=λ c h1 hc a b=>by
 have e:=l.ct c hc
 rw[h2 c h1 (by have:=l.cl;omega) (by rw[e];exact a) (λ m=>by rw[e];exact b m)]
 exact h c h1 hc a b
theorem B7{c v i:Int}(h:Z1 H σ υ c v)(hc:σ.ct c=.main i∨∃m,σ.ct c=.prev m):Ga σ υ i:=λ x _ _ a b=>h.other x λ e=>by
 subst e
 rcases hc with hc|⟨m,hc⟩
 ·exact a hc
 ·exact b m hc
theorem Ws{n:Nv}{x i:Int}(l:Le σ υ)(e:υ.mm=σ.mm.push n x):Ga σ υ i:=λ c' _ hc _ _=>by
 have e2:υ.mm.cs=gG n.kind σ.mm.cs x:=by rw[e];rfl
 show bV υ.mm.cs c'=_
 rw[e2]
 unfold gG
 split
 ·exact qB hc
 ·rfl
end
end

/- Procedures among others or alone: their labels, how many accesses they make, who settles what. -/
section
open Go Go.RowKit Go.Ct
structure Xp where
 H:ByteArray->Nat
 Q:Rs->Kw->Prop
 A:Tr->Prop
 C:Nat
 E:Kw->Prop
 R:Int->Int->Tr->Kw->Prop
 b:Bool
 al:Bool
structure Gg(X:Xp)(σ τ:Kw):Prop where
 le:Le σ τ
 inv:Inv X.H τ
 solo:X.b=false->τ=σ
def XT(X:Xp):Tr->Nat->Kw->Prop
 | .done r,_,σ=>X.E σ∨X.Q r σ
 | .load c k,n,σ=>X.E σ∨∃m,(n=m+1∨(X.A (.load c k)/\m=X.C))/\∀τ,Gg X σ τ->XT X (k (τ.ce c)) m τ
 | .oG c o v k,n,σ=>X.E σ∨∃m,n=m+1/\∀τ,Gg X σ τ->(iT τ.mm.cs c o->Le τ (τ.set c o v)/\Inv X.H (τ.set c o v)/\X.R c v (k true) (τ.set c o v)/\XT X (k true) m (τ.set c o v))/\(¬iT τ.mm.cs c o->XT X (k false) m τ)
 | .alloc nd i k,n,σ=>X.E σ∨((nd.kind=2->aX σ i)/\(X.al=true->∀υ,Le σ υ->Inv X.H υ->υ.mm=σ.mm.push nd i->XT X (k ((σ.len+1:Nat):Int)) n υ)/\(X.al=false->∃υ,Le σ υ/\Inv X.H υ/\υ.mm=σ.mm.push nd i/\XT X (k ((σ.len+1:Nat):Int)) n υ))
 | .cell i k,n,σ=>X.E σ∨((σ.nd i).kind=2/\(X.al=true->∀υ,Le σ υ->Inv X.H υ->υ.mm=⟨σ.mm.nodes,σ.mm.cs++[i],σ.mm.gen⟩->XT X (k ((σ.cl+1:Nat):Int)) n υ)/\(X.al=false->∃υ,Le σ υ/\Inv X.H υ/\υ.mm=⟨σ.mm.nodes,σ.mm.cs++[i],σ.mm.gen⟩/\XT X (k ((σ.cl+1:Nat):Int)) n υ))
 | .gen k,n,σ=>X.E σ∨((X.al=true->∀υ,Le σ υ->Inv X.H υ->υ.mm=⟨σ.mm.nodes,σ.mm.cs,σ.mm.gen+1⟩->XT X (k (σ.mm.gen+1)) n υ)/\(X.al=false->∃υ,Le σ υ/\Inv X.H υ/\υ.mm=⟨σ.mm.nodes,σ.mm.cs,σ.mm.gen+1⟩/\XT X (k (σ.mm.gen+1)) n υ))
 | .node r k,n,σ=>X.E σ∨(r<=σ.len/\XT X (k (σ.nd r)) n σ)
 | .stuck,_,_=>True
section
variable{X:Xp}{σ τ υ:Kw}
theorem Gg.refl(i:Inv X.H σ):Gg X σ σ:=⟨Le.refl σ,i,λ _=>rfl⟩
theorem Gg.trans(i0:Inv X.H σ)(h:Gg X σ τ)(h2:Gg X τ υ):Gg X σ υ:=⟨h.le.trans i0 h.inv h2.le,h2.inv,λ e=>(h2.solo e).trans (h.solo e)⟩
theorem XT.stop{t:Tr}{n:Nat}(h:X.E σ):XT X t n σ:=by cases t<;>first|exact .inl h|trivial
theorem XT.mono:∀{t:Tr} {n m:Nat} {σ:Kw},n<=m->XT X t n σ->XT X t m σ:=by
 intro t
 induction t with
 | done r=>intro n m σ _ h;exact h
 | stuck=>intro n m σ _ _;trivial
 | load c k ih =>
  intro n m σ hnm h
  rcases h with h|⟨q,e,h⟩
  ·exact .inl h
  ·rcases e with e|e
   ·exact .inr ⟨m-1,.inl (by omega),λ τ hg=>ih _ (by omega) (h τ hg)⟩
   ·exact .inr ⟨q,.inr e,h⟩
 | oG c o v k ih =>
  intro n m σ hnm h
  rcases h with h|⟨q,e,h⟩
  ·exact .inl h
  ·refine .inr ⟨m-1,by omega,λ τ hg=>⟨λ hc=>?_,λ hc=>ih _ (by omega) ((h τ hg).2 hc)⟩⟩
   obtain⟨a,b,r,d⟩:=(h τ hg).1 hc
   exact⟨a,b,r,ih _ (by omega) d⟩
 | alloc nd i k ih =>
  intro n m σ hnm h
  rcases h with h|⟨a,b,d⟩
  ·exact .inl h
  ·refine .inr ⟨a,λ ha υ l i1 e=>ih _ hnm (b ha υ l i1 e),λ ha=>?_⟩
   obtain⟨υ,l,i1,e,d⟩:=d ha
   exact⟨υ,l,i1,e,ih _ hnm d⟩
 | cell i k ih =>
  intro n m σ hnm h
  rcases h with h|⟨a,b,d⟩
  ·exact .inl h
  ·refine .inr ⟨a,λ ha υ l i1 e=>ih _ hnm (b ha υ l i1 e),λ ha=>?_⟩
   obtain⟨υ,l,i1,e,d⟩:=d ha
   exact⟨υ,l,i1,e,ih _ hnm d⟩
 | gen k ih =>
  intro n m σ hnm h
  rcases h with h|⟨b,d⟩
  ·exact .inl h
  ·refine .inr ⟨λ ha υ l i1 e=>ih _ hnm (b ha υ l i1 e),λ ha=>?_⟩
   obtain⟨υ,l,i1,e,d⟩:=d ha
   exact⟨υ,l,i1,e,ih _ hnm d⟩
 | node r k ih =>
  intro n m σ hnm h
  rcases h with h|⟨a,d⟩
  ·exact .inl h
  ·exact .inr ⟨a,ih _ hnm d⟩
theorem XT.fresh{c:Int}{k:Int->Tr}{n:Nat}(ha:X.A (.load c k))(h:XT X (.load c k) (X.C+1) σ):XT X (.load c k) n σ:=by
 rcases h with h|⟨q,e,h⟩
 ·exact .inl h
 ·refine .inr ⟨X.C,.inr ⟨ha,rfl⟩,λ τ hg=>?_⟩
  have:=h τ hg
  rcases e with e|e
  ·rwa [show q=X.C by omega] at this
  ·rwa [e.2] at this
theorem cK{r:Int}{k:Nv->Tr}{n:Nat}(h:r<=σ.len)(w:XT X (k (σ.nd r)) n σ):XT X (.node r k) n σ:=.inr ⟨h,w⟩
theorem nF{c:Int}{k:Int->Tr}{n:Nat}(h:∀τ,Gg X σ τ->XT X (k (τ.ce c)) n τ):XT X (.load c k) (n+1) σ:=.inr ⟨n,.inl rfl,h⟩
structure aAB(X:Xp)(σ τ:Kw)(c o v:Int)(bb:Bool):Prop where
 t:bb=true->τ.ce c=v
 f:bb=false->τ.ce c≠o
 s:X.b=false->(bb=true/\σ.ce c=o/\Z1 X.H σ τ c v)∨(bb=false/\τ=σ)
structure Vo(X:Xp):Prop where
 r0:∀c v t υ,(∀i,υ.ct c≠.main i)->υ.ct c≠.root->X.R c v t υ
 r1:∀c v t υ i,υ.ct c=.main i->aX υ v->X.R c v t υ
 r2:∀υ t i w g m K,Inv X.H υ->bU υ t->nJ υ i w g->mE υ m w g->X.R (υ.nd i).main m (uV t i m K) υ
 r3:∀c v t υ,υ.ct c=.root->(υ.nd v).kind=2->X.R c v t υ
 r4:∀υ t d (K:Int->Int->Tr),Inv X.H υ->bU υ t->t.ro=false->(υ.nd d).kind=8->X.R t.root d (vK t d (.node d λ nd=>.load nd.status λ s=>Fy t d s (K s))) υ
theorem Bj{c o v:Int}{k:Bool->Tr}{n:Nat}(h1:1<=c)(h2:c<=σ.cl)(i0:Inv X.H σ)(hset:∀τ,Le σ τ->Inv X.H τ->iT τ.mm.cs c o->S3 τ c o v)
  (hR:∀υ,Le σ υ->Inv X.H υ->υ.ce c=v->X.R c v (k true) υ)
  (hk:∀τ bb,Le σ τ->Inv X.H τ->aAB X σ τ c o v bb->XT X (k bb) n τ):XT X (.oG c o v k) (n+1) σ :=
 .inr ⟨n,rfl,λ τ hg=>⟨λ hc=>by
  obtain⟨l2,i2,e3⟩:=ja hg.inv hc (hset τ hg.le hg.inv hc)
  have l:=hg.le.trans i0 hg.inv l2
  refine⟨l2,i2,hR _ l i2 e3,hk _ true l i2 ⟨λ _=>e3,λ h=>(nomatch h),λ hb=>.inl ⟨rfl,?_⟩⟩⟩
  have e:=hg.solo hb
  subst e
  refine⟨uB hc,l2,i2,e3,λ x hx=>?_⟩
  show bV (gF τ.mm.cs c o v) x=_
  rw[iZ hc,if_neg hx],
 λ hc=>hk τ false hg.le hg.inv ⟨λ h=>(nomatch h),λ _=>zj h1 (by have:=hg.le.cl;simp only[Kw.cl] at *;omega) hc,λ hb=>.inr ⟨rfl,hg.solo hb⟩⟩⟩⟩
variable{w:List Nat}{g:Int}
theorem He(cs:List Int)(x:Int):bV (cs++[x]) ((cs.length+1:Nat):Int)=x:=by
 unfold bV
 rw[if_pos ⟨by omega,by simp⟩,show(((cs.length+1:Nat):Int)-1).toNat=cs.length by omega]
 simp[fM]
structure Pb(σ υ:Kw)(n:Nv)(c r:Int):Prop where
 mm:υ.mm=σ.mm.push n c
 re:r=((σ.len+1:Nat):Int)
 nd:υ.nd r=cS n σ.cl
 r1:1<=r
 r2:r<=υ.len
structure je(σ υ:Kw)(n:Nv)(c r:Int)(w:List Nat)(g:Int):Prop extends Pb σ υ n c r where
 way:υ.way r=w
 gb:υ.gb r=g
theorem Dd{n:Nv}{c:Int}(e:υ.mm=σ.mm.push n c):Pb σ υ n c ((σ.len+1:Nat):Int):=by
 have hl:υ.len=σ.len+1:=by simp only[Kw.len,e,Mm.push,List.length_append,List.length_cons,List.length_nil]
 refine⟨e,rfl,?_,by omega,by omega⟩
 show cA υ.mm.nodes _=_
 rw[e]
 simp only[Mm.push,cA,List.length_append,List.length_cons,List.length_nil]
 rw[if_pos ⟨by omega,by simp only[Kw.len];omega⟩]
 have e:(((σ.len+1:Nat):Int)-1).toNat=σ.mm.nodes.length:=by simp only[Kw.len];omega
 rw[e]
 simp[fM]
theorem Pb.ce{n:Nv}{c r x:Int}(h:Pb σ υ n c r)(hx:x<=σ.cl):υ.ce x=σ.ce x:=by
 have e2:υ.mm.cs=gG n.kind σ.mm.cs c:=by rw[h.mm];rfl
 show bV υ.mm.cs x=_
 rw[e2]
 unfold gG
 split
 ·exact qB hx
 ·rfl
theorem Pb.pa{n:Nv}{c r i:Int}(h:Pb σ υ n c r)(l:Le σ υ):Ga σ υ i:=Ws l h.mm
theorem Pb.new{n:Nv}{c r:Int}(h:Pb σ υ n c r)(hk:n.kind=2∨n.kind=3∨n.kind=5∨n.kind=6∨n.kind=8):υ.ce ((σ.cl+1:Nat):Int)=c:=by
 have e2:υ.mm.cs=σ.mm.cs++[c]:=by rw[h.mm];unfold Mm.push gG;dsimp only;rw[if_pos hk]
 show bV υ.mm.cs _=c
 rw[e2]
 exact He _ _
theorem Pb.prev{n:Nv}{c r:Int}(h:Pb σ υ n c r)(hk:bT n):υ.ce (υ.nd r).prev=c:=by
 have hk':n.kind=3∨n.kind=5∨n.kind=6:=hk
 rw[h.nd,show(cS n σ.cl).prev=((σ.cl+1:Nat):Int) from if_pos hk']
 exact h.new (by omega)
theorem Pb.main{n:Nv}{c r:Int}(h:Pb σ υ n c r)(hk:n.kind=2):υ.ce (υ.nd r).main=c:=by
 rw[h.nd,show(cS n σ.cl).main=((σ.cl+1:Nat):Int) from if_pos hk]
 exact h.new (.inl hk)
theorem Pb.stat{n:Nv}{c r:Int}(h:Pb σ υ n c r)(hk:n.kind=8):υ.ce (υ.nd r).status=c:=by
 rw[h.nd,show(cS n σ.cl).status=((σ.cl+1:Nat):Int) from if_pos hk]
 exact h.new (.inr (.inr (.inr (.inr hk))))
theorem gX{nd:Nv}{c:Int}{k:Int->Tr}{n:Nat}(hal:X.al=false)(i0:Inv X.H σ)(hn:jG X.H σ nd w g)(hc:Ub σ nd c w g)
  (hk:∀υ r,Le σ υ->Inv X.H υ->je σ υ nd c r w g->XT X (k r) n υ) (h2:nd.kind=2->aX σ c:=by intro h;first|exact cY (a:=3) (b:=2) h|exact cY (a:=4) (b:=2) h|exact cY (a:=5) (b:=2) h|exact cY (a:=6) (b:=2) h|exact cY (a:=7) (b:=2) h|exact cY (a:=8) (b:=2) h|exact absurd h (bT.ne0 (by assumption)).2.2.1):XT X (.alloc nd c k) n σ:=by
 obtain⟨υ,l2,i2,e2,e3,e4,e5⟩:=bg i0 hn hc
 exact .inr ⟨h2,λ h=>(by rw[hal] at h;cases h),λ _=>⟨υ,l2,i2,e2,hk υ _ l2 i2 ⟨Dd e2,e4,e5⟩⟩⟩
theorem ld{nd:Nv}{c:Int}{k:Int->Tr}{n:Nat}(i0:Inv X.H σ)(hn:jG X.H σ nd w g)(hc:Ub σ nd c w g)(h2:nd.kind≠2)
  (hk:∀υ r,Le σ υ->Inv X.H υ->Pb σ υ nd c r->XT X (k r) n υ):XT X (.alloc nd c k) n σ:=by
 obtain⟨υ,l2,i2,e2,e3,e4,e5⟩:=bg i0 hn hc
 exact .inr ⟨λ h=>absurd h h2,λ _ υ l i1 e=>hk υ _ l i1 (Dd e),λ _=>⟨υ,l2,i2,e2,hk υ _ l2 i2 (Dd e2)⟩⟩
end
end

end Go.Proofs.YtadnboagdhcedaaGreatDoor
