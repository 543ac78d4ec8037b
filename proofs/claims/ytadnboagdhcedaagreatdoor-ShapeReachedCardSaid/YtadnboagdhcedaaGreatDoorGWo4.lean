/- Worlds: the call of an operation. -/
import Derived.Test.YtadnboagdhcedaaGreatDoorGTm2
import Derived.Test.YtadnboagdhcedaaGreatDoorGBits
import Derived.Test.YtadnboagdhcedaaGreatDoorGEx18
import Derived.Test.YtadnboagdhcedaaGreatDoorGKw5

set_option linter.unusedSimpArgs false
set_option linter.unusedVariables false
namespace Go.Proofs.YtadnboagdhcedaaGreatDoor
section
open Go Go.RowKit Go.Ct
theorem us{ts:List dZ}{j:Nat}(h:j<ts.length):((qS ts).drop (2*j)).take 2=[.int .i64 (ts.getD j ⟨0,false⟩).root,.bool (ts.getD j ⟨0,false⟩).ro]:=by
 induction ts generalizing j with
 | nil=>simp at h
 | cons t ts ih =>
  cases j with
  | zero=>simp[qS]
  | succ j =>
   have:=ih (j:=j) (by simpa using h)
   rw[show 2*(j+1)=2*j+1+1 by omega]
   simpa[qS] using this
section
variable{P:Program}{S:List (Nat×Value)}{d:Nat}{ty t t' e:TypeId}{pos:String}{af:Array Edge}{gd:Option (Nat×Bool)}{x y:Operand}{w0 w:World}{M:List Nat}{H:List (Nat×Obj)}{A F:Fr}{O:List Ow}{a:Option Addr}
theorem I6{ts:List dZ}{q:Nat}(hx:ev S x=.pointer (some ⟨cR a,dX a+2*q,none⟩))(ht:jO P t 2=true)(hf:pE A F O a (qS ts))(hq:q<ts.length) :
  aJ P S (SF w0 M H A F O) ⟨some d,.load t x,ty,pos,af,gd⟩ (.agg ⟨[.int .i64 (ts.getD q ⟨0,false⟩).root,.bool (ts.getD q ⟨0,false⟩).ro]⟩):=Z2 hx ht hf (us hq) rfl
end
structure D7 where
 key:ByteArray
 val:Int
 exp:Int
 Ge:Int
 only:Bool
 t:dZ
 pos:Nat
def D7.cl(q:D7)(kind mask:Int):Cl:=⟨kind,q.t,0,0,0,0,0,mask,q.key,q.val,q.exp,q.Ge,q.only⟩
def wrK(kind:Int):Prop:=kind=8∨kind=9∨kind=12∨kind=4
structure Ll(kind:Int)(ts:List dZ)(q:D7):Prop where
 ky:q.key∈kN
 mem:q.t∈ts
 ro:wrK kind->q.t.ro=false
theorem nX{v:Nat}(h:v<8):kN.getD v ⟨#[]⟩∈kN:=by
 have:v=0∨v=1∨v=2∨v=3∨v=4∨v=5∨v=6∨v=7:=by omega
 rcases this with rfl|rfl|rfl|rfl|rfl|rfl|rfl|rfl<;>simp[kN]
theorem yH{ts:List dZ}{j:Nat}(h:j<ts.length):ts.getD j ⟨0,false⟩∈ts:=by
 rw[fI,List.getElem?_eq_getElem h];exact List.getElem_mem h
section
variable{P:Program}{S:List (Nat×Value)}{G:World->Prop}{d:Nat}{ty t t':TypeId}{pos:String}{af:Array Edge}{gd:Option (Nat×Bool)}{x y:Operand}
theorem sr{a b:Nat}(hx:ev S x=.int .i64 ((a:Nat):Int))(hy:ev S y=.int .i64 ((b:Nat):Int))(h0:b≠0):aJ P S G ⟨some d,.binOp .rem t x y t',ty,pos,af,gd⟩ (.int .i64 ((a%b:Nat):Int)):=by
 have:=Y9 (P:=P) (G:=G) (d:=d) (ty:=ty) (pos:=pos) (af:=af) (gd:=gd) (t:=t) (t':=t') hx hy (by omega)
 rwa [Int.tmod_eq_emod_of_nonneg (by omega),<- Int.natCast_emod] at this
end
section
variable{bw bm tb:Nat}{D:List Nat}{A:Fr}{w:World}{mask:Int}{ts:List dZ}{pt pe:Option Addr}{kt ke ne:Nat}{l:List Int}{a:Option Addr}{c p:Nat}
set_option maxRecDepth 100000 in
set_option maxHeartbeats 2000000 in
theorem lx(kind:Int)(hkd:7<=kind/\kind<=12)(hl:l.length<=17592186043904)(h0:0<ts.length)(hts:ts.length<=1000)(hr0:(ts.getD 0 ⟨0,false⟩).ro=false)
  (hs:SF w D [(tb,O4 a l c p),(bw,mX bm mask pt ts.length kt pe ne ke)] [(a,aG l)] [] [⟨pt,qS ts,kt,29,2⟩] w) :
  Calls Tryz.prog 27 #[.pointer (some ⟨bw,0,none⟩),.int .i64 kind,.pointer (some ⟨tb,0,none⟩)] w λ e w'=>∃q:D7,e=.returned (.agg ⟨Nt (q.cl kind mask)⟩)/\Ll kind ts q /\
   SF w D [(tb,O4 a l c q.pos),(bw,mX bm mask pt ts.length kt pe ne ke)] [] [] [⟨pt,qS ts,kt,29,2⟩] w':=by
 refine enter Tryz.func27 Tryz.ntmps27 rfl rfl hs ?_
 simp only[cO]
 refine J0 ?_;refine aN (λ x6=>?_);refine Sx ?_
 refine dW [7,12,13,14,15,16,17,18,19,20,21,22,23,24,25,26,27,28,29,30] (λ y:Nat×D7=>[(7,.pointer (some ⟨y.1,0,none⟩))]) (λ y=>y.2.key∈kN) (λ y=>[(y.1,.cells ⟨Nt (y.2.cl kind mask)⟩ 70 (0,0)),(x6,.cells ⟨Nt ⟨0,⟨0,false⟩,0,0,0,0,0,0,⟨#[]⟩,0,0,0,false⟩⟩ 70 (0,0)),(tb,O4 a l c y.2.pos),(bw,mX bm mask pt ts.length kt pe ne ke)]) (λ _=>[]) (λ _=>[⟨pt,qS ts,kt,29,2⟩]) (by decide) (λ _=>by exact rfl) ?_ (λ y f hx=>?_)
 ·refine gK (.one 0 [] (.one 1 [] (.one 2 [] (.one 3 [] (.one 4 [] (.one 5 [] (.one 7 [] (.one 10 [] (.one 13 [] (.one 15 [] (.two 6 [4] (.two 8 [4] (.one 9 [] (.two 11 [4] (.one 12 [] (.two 14 [4] (.two 16 [4] (.one 17 [] (.one 18 [] (.one 19 [4] (.one 20 [] .nil)))) 0 [] (.two 19 [4] (.one 16 [4] (.one 17 [] (.one 18 [] (.one 20 [] .nil)))) 0 [] .nil)) 0 [] (.two 19 [4] (.one 14 [4] (.one 16 [4] (.one 17 [] (.one 18 [] (.one 20 [] .nil))))) 0 [] .nil))) 0 [] (.two 19 [4] (.one 11 [4] (.one 12 [] (.one 14 [4] (.one 16 [4] (.one 17 [] (.one 18 [] (.one 20 [] .nil))))))) 0 [] .nil))) 0 [] (.two 19 [4] (.one 8 [4] (.one 9 [] (.one 11 [4] (.one 12 [] (.one 14 [4] (.one 16 [4] (.one 17 [] (.one 18 [] (.one 20 [] .nil))))))))) 0 [] .nil)) 0 [] (.two 19 [4] (.one 6 [4] (.one 8 [4] (.one 9 [] (.one 11 [4] (.one 12 [] (.one 14 [4] (.one 16 [4] (.one 17 [] (.one 18 [] (.one 20 [] .nil)))))))))) 0 [] .nil)))))))))))) ?_
  refine ud ?_;refine gP ?_;refine gP ?_;refine aU ?_
  refine gW (E:=[6,19]) (by decide +kernel) ((.cons ?_ (.cons ?_ .nil)))
  ·refine kP (i:=6) (hq:=(wF (hc:=λ w1 hw=>oj (hw.tape dV fin hl)))) (h:=λ x18 h18=>?_)
   refine gW (E:=[8,19]) (by decide +kernel) ((.cons ?_ (.cons ?_ .nil)))
   ·refine kP (i:=8) (hq:=(wF (hc:=λ w1 hw=>eJ 6 (hw.tape dV fin hl) (by decide) (by decide)))) (h:=λ x20 h20=>?_)
    refine lS ?_
    refine gW (E:=[11,19]) (by decide +kernel) ((.cons ?_ (.cons ?_ .nil)))
    ·refine kP (i:=11) (hq:=(wF (hc:=λ w1 hw=>eJ 6 (hw.tape dV fin hl) (by decide) (by decide)))) (h:=λ x23 h23=>?_)
     refine lS ?_
     refine gW (E:=[14,19]) (by decide +kernel) ((.cons ?_ (.cons ?_ .nil)))
     ·refine kP (i:=14) (hq:=(wF (hc:=λ w1 hw=>eJ 4 (hw.tape dV fin hl) (by decide) (by decide)))) (h:=λ x26 h26=>?_)
      refine gW (E:=[16,19]) (by decide +kernel) ((.cons ?_ (.cons ?_ .nil)))
      ·refine kP (i:=16) (hq:=(wF (hc:=λ w1 hw=>eJ 3 (hw.tape dV fin hl) (by decide) (by decide)))) (h:=λ x28 h28=>?_)
       refine mZ ?_;refine jC ?_;refine fQ (h:=λ x7=>?_);refine zO ?_
       refine eN ((x7,⟨kN.getD x18 ⟨#[]⟩,((x20:Nat):Int),((x23:Nat):Int),((x26:Nat):Int),((x28:Nat):Int)==0,⟨0,false⟩,nD l (nD l (nD l (nD l (nD l p))))⟩)) ?_
       ·exact nX h18.1
      ·refine gF (i:=19) (h:=λ x7=>?_)
       refine bC (i:=16) (hq:=(wF (hc:=λ w1 hw=>eJ 3 (hw.tape dV fin hl) (by decide) (by decide)))) (h:=λ x28 h28=>?_);refine mZ ?_;refine jC ?_;refine zO ?_
       refine eN ((x7,⟨kN.getD x18 ⟨#[]⟩,((x20:Nat):Int),((x23:Nat):Int),((x26:Nat):Int),((x28:Nat):Int)==0,⟨0,false⟩,nD l (nD l (nD l (nD l (nD l p))))⟩)) ?_
       ·exact nX h18.1
     ·refine gF (i:=19) (h:=λ x7=>?_)
      refine bC (i:=14) (hq:=(wF (hc:=λ w1 hw=>eJ 4 (hw.tape dV fin hl) (by decide) (by decide)))) (h:=λ x26 h26=>?_);refine bC (i:=16) (hq:=(wF (hc:=λ w1 hw=>eJ 3 (hw.tape dV fin hl) (by decide) (by decide)))) (h:=λ x28 h28=>?_);refine mZ ?_;refine jC ?_;refine zO ?_
      refine eN ((x7,⟨kN.getD x18 ⟨#[]⟩,((x20:Nat):Int),((x23:Nat):Int),((x26:Nat):Int),((x28:Nat):Int)==0,⟨0,false⟩,nD l (nD l (nD l (nD l (nD l p))))⟩)) ?_
      ·exact nX h18.1
    ·refine gF (i:=19) (h:=λ x7=>?_)
     refine bC (i:=11) (hq:=(wF (hc:=λ w1 hw=>eJ 6 (hw.tape dV fin hl) (by decide) (by decide)))) (h:=λ x23 h23=>?_);refine lS ?_;refine bC (i:=14) (hq:=(wF (hc:=λ w1 hw=>eJ 4 (hw.tape dV fin hl) (by decide) (by decide)))) (h:=λ x26 h26=>?_);refine bC (i:=16) (hq:=(wF (hc:=λ w1 hw=>eJ 3 (hw.tape dV fin hl) (by decide) (by decide)))) (h:=λ x28 h28=>?_);refine mZ ?_;refine jC ?_;refine zO ?_
     refine eN ((x7,⟨kN.getD x18 ⟨#[]⟩,((x20:Nat):Int),((x23:Nat):Int),((x26:Nat):Int),((x28:Nat):Int)==0,⟨0,false⟩,nD l (nD l (nD l (nD l (nD l p))))⟩)) ?_
     ·exact nX h18.1
   ·refine gF (i:=19) (h:=λ x7=>?_)
    refine bC (i:=8) (hq:=(wF (hc:=λ w1 hw=>eJ 6 (hw.tape dV fin hl) (by decide) (by decide)))) (h:=λ x20 h20=>?_);refine lS ?_;refine bC (i:=11) (hq:=(wF (hc:=λ w1 hw=>eJ 6 (hw.tape dV fin hl) (by decide) (by decide)))) (h:=λ x23 h23=>?_);refine lS ?_;refine bC (i:=14) (hq:=(wF (hc:=λ w1 hw=>eJ 4 (hw.tape dV fin hl) (by decide) (by decide)))) (h:=λ x26 h26=>?_);refine bC (i:=16) (hq:=(wF (hc:=λ w1 hw=>eJ 3 (hw.tape dV fin hl) (by decide) (by decide)))) (h:=λ x28 h28=>?_);refine mZ ?_;refine jC ?_;refine zO ?_
    refine eN ((x7,⟨kN.getD x18 ⟨#[]⟩,((x20:Nat):Int),((x23:Nat):Int),((x26:Nat):Int),((x28:Nat):Int)==0,⟨0,false⟩,nD l (nD l (nD l (nD l (nD l p))))⟩)) ?_
    ·exact nX h18.1
  ·refine gF (i:=19) (h:=λ x7=>?_)
   refine bC (i:=6) (hq:=(wF (hc:=λ w1 hw=>oj (hw.tape dV fin hl)))) (h:=λ x18 h18=>?_);refine bC (i:=8) (hq:=(wF (hc:=λ w1 hw=>eJ 6 (hw.tape dV fin hl) (by decide) (by decide)))) (h:=λ x20 h20=>?_);refine lS ?_;refine bC (i:=11) (hq:=(wF (hc:=λ w1 hw=>eJ 6 (hw.tape dV fin hl) (by decide) (by decide)))) (h:=λ x23 h23=>?_);refine lS ?_;refine bC (i:=14) (hq:=(wF (hc:=λ w1 hw=>eJ 4 (hw.tape dV fin hl) (by decide) (by decide)))) (h:=λ x26 h26=>?_);refine bC (i:=16) (hq:=(wF (hc:=λ w1 hw=>eJ 3 (hw.tape dV fin hl) (by decide) (by decide)))) (h:=λ x28 h28=>?_);refine mZ ?_;refine jC ?_;refine zO ?_
   refine eN ((x7,⟨kN.getD x18 ⟨#[]⟩,((x20:Nat):Int),((x23:Nat):Int),((x26:Nat):Int),((x28:Nat):Int)==0,⟨0,false⟩,nD l (nD l (nD l (nD l (nD l p))))⟩)) ?_
   ·exact nX h18.1
 dsimp only[fY,List.map,List.cons_append,List.nil_append]
 have hy:=hx
 refine J2 ?_;refine lJ ?_;refine aB ?_
 (refine eF 33 (λ g33=>?_) (λ g33=>?_)<;>(try (exfalso;omega))<;>((refine Ka6 ?_)))
 ((refine aF ?_;refine lJ ?_));refine cK ?_;refine Ka4 ?_;refine lJ ?_;refine aB ?_
 (refine eF 39 (λ g39=>?_) (λ g39=>?_)<;>refine Ka0 ?_)
 all_goals ((first|refine aH ?_|(refine aF ?_;refine lJ ?_));refine Kc2 ?_)
 all_goals (first|refine aH ?_|(refine eF 43 (λ g43=>?_) (λ g43=>?_)<;>refine Ka0 ?_))
 all_goals ((first|refine aH ?_|(refine aF ?_;refine lJ ?_));refine Kc2 ?_)
 all_goals (first|refine aH ?_|(refine eF 47 (λ g47=>?_) (λ g47=>?_)<;>refine Ka0 ?_))
 all_goals ((first|refine aH ?_|(refine aF ?_;refine lJ ?_));refine cK ?_;refine sZ ?_;refine dJ ?_;refine Li ?_;refine aC (wF (hc:=λ w1 hw=>eJ ts.length (hw.tape dV fin hl) (by omega) (by omega))) (λ x57 h57=>?_);refine gQ ?_;refine Gl ?_)
 all_goals
 refine kZ [11,58,59,60,61,62,63,64,65,66,67,68,69,70,71,72,73,74,75,76,77,78,79,80,81,82,83,84,85,86,87,88,89,90,91,92,93,94,95,96,97,98,99,100] (λ z:Nat×dZ=>[(11,.int .i64 ((z.1:Nat):Int))]) (λ z=>z.1<=ts.length) (λ z=>[(y.1,.cells ⟨Nt (({y.2 with t:=z.2}:D7).cl kind mask)⟩ 70 (0,0)),(x6,.cells ⟨Nt ⟨0,⟨0,false⟩,0,0,0,0,0,0,⟨#[]⟩,0,0,0,false⟩⟩ 70 (0,0)),(tb,O4 a l c (nD l y.2.pos)),(bw,mX bm mask pt ts.length kt pe ne ke)]) (λ _=>_) (λ _=>_) (λ z=>ts.length-z.1) ((0,y.2.t)) (Nat.zero_le _) (λ z f hx=>?_)
 dsimp only[fY,List.map,List.cons_append,List.nil_append]
 all_goals (refine F0 ?_;refine dJ ?_;refine Li ?_;refine vI ?_)
 all_goals
  refine aZ (λ c64=>?_) (λ c64=>?_)
  ·all_goals try (exfalso;omega)
   all_goals (refine nZ ?_;refine aR ?_;refine fJ [0,1,2,3,4,5,6,7,8,9,10,11,12,13,14,15,16] ?_;refine U1 ?_;refine gP ?_;refine cJ (i:=6) (hq:=(lT (m:=x57) (n:=z.1) rf rf (by omega))) (h:=?_);refine U1 ?_;refine lN ?_;refine cJ (i:=12) (hq:=(sr (a:=x57+z.1) (b:=ts.length) rf rf (by omega))) (h:=?_);refine bJ (i:=13) (hq:=(Qh (cs:=qS ts) (k:=(x57+z.1)%ts.length) rf rf fC fX fin (Nat.mod_lt _ h0) (by rw[lV];have:=Nat.mod_lt (x57+z.1) h0;omega))) (h:=?_);refine bJ (i:=14) (hq:=(I6 (ts:=ts) (q:=(x57+z.1)%ts.length) rf fX fin (Nat.mod_lt _ h0))) (h:=?_);refine aP ?_;refine lZ (i:=16) (hq:=(sY λ _=>pG (off:=1) (vs:=[.int .i64 (ts.getD ((x57+z.1)%ts.length) ⟨0,false⟩).root,.bool (ts.getD ((x57+z.1)%ts.length) ⟨0,false⟩).ro]) rf dV rf rfl fX (Nat.le_of_ble_eq_true rfl) rf xL)) (h:=λ _=>?_);refine dS ?_;refine J0 ?_;refine Kb7 ?_;refine aB ?_)
   all_goals ((refine eF 86 (λ g86=>?_) (λ g86=>?_)<;>refine Ka0 ?_))
   all_goals ((first|refine aH ?_|(refine aF ?_;refine wI ?_));refine Kc2 ?_)
   all_goals (first|(refine aF ?_;refine aD ?_)|(refine eF 90 (λ g90=>?_) (λ g90=>?_)<;>(try (exfalso;omega))<;>(refine aH ?_)))
   all_goals (refine Ka1 ?_;refine Ka2 ?_;(first|refine aH ?_|(refine aF ?_;refine wI ?_));refine Ka0 ?_)
   all_goals (first|refine yB ?_|(refine eF 95 (λ g95=>?_) (λ g95=>?_)<;>refine Ka0 ?_))
   all_goals ((first|refine aH ?_|refine yB ?_|(refine aF ?_;refine wI ?_));(first|refine aH ?_|(refine aF ?_;refine cK ?_));refine cK ?_;refine aI ?_)
   all_goals
   refine aZ (λ c99=>?_) (λ c99=>?_)
   ·try exact nv c99
    all_goals (refine Ka9 ?_)
    all_goals
     refine bK Tryz.results27 (λ w hw=>?_)
     exact⟨{y.2 with t:=ts.getD ((x57+z.1)%ts.length) ⟨0,false⟩,pos:=nD l y.2.pos},rfl,⟨hy,yH (Nat.mod_lt _ h0),λ hk=>by first|(simp_all;done)|(unfold wrK at hk;exfalso;omega)⟩,hw.aS⟩
   ·try exact nv c99
    all_goals try (exfalso;omega)
    all_goals (refine lG ?_;refine zW ?_)
    all_goals
     refine fV ((z.1+1,ts.getD ((x57+z.1)%ts.length) ⟨0,false⟩)) ?_
     ·omega
  ·all_goals try (exfalso;omega)
   all_goals (refine bF rfl ?_;refine mV ?_;refine aE (Qh (cs:=qS ts) (k:=0) rf rf fC fX fin h0 (by rw[lV];omega)) rfl ?_;refine aE (I6 (ts:=ts) (q:=0) rf fX fin h0) rfl ?_;refine aD ?_;refine jY (sY λ _=>pG (off:=1) (vs:=[.int .i64 (ts.getD 0 ⟨0,false⟩).root,.bool (ts.getD 0 ⟨0,false⟩).ro]) rf dV rf rfl fX (Nat.le_of_ble_eq_true rfl) rf xL) (λ _=>?_);refine aI ?_;refine Ka9 ?_)
   all_goals
   refine bK Tryz.results27 (λ w hw=>?_)
   exact⟨{y.2 with t:=ts.getD 0 ⟨0,false⟩,pos:=nD l y.2.pos},rfl,⟨hy,yH h0,λ _=>hr0⟩,hw.aS⟩
end
end

/- What a step of one's own changes. -/
section
open Go Go.RowKit Go.Ct
section
variable{H:ByteArray->Nat}{σ τ υ:Kw}
structure Xw(H:ByteArray->Nat)(σ υ:Kw)(c v:Int):Prop where
 le:Le σ υ
 inv:Inv H υ
 at':υ.ce c=v
 other:∀x,x≠c->υ.ce x=σ.ce x
def F7(σ τ:Kw)(i:Int):Prop:=∀c:Int,1<=c->c<=σ.cl->σ.ct c≠.main i->(∀m,σ.ct c≠.prev m)->τ.ce c=σ.ce c
theorem F7.refl(σ:Kw)(i:Int):F7 σ σ i:=λ _ _ _ _ _=>rfl
theorem F7.trans{i:Int}(l:Le σ τ)(h:F7 σ τ i)(h2:F7 τ υ i):F7 σ υ i:=λ c h1 hc a b=>by
 have e:=l.ct c hc
 rw[h2 c h1 (by have:=l.cl;omega) (by rw[e];exact a) (λ m=>by rw[e];exact b m)]
 exact h c h1 hc a b
theorem Cu{c v i:Int}(h:Xw H σ υ c v)(hc:σ.ct c=.main i∨∃m,σ.ct c=.prev m):F7 σ υ i:=λ x _ _ a b=>h.other x λ e=>by
 subst e
 rcases hc with hc|⟨m,hc⟩
 ·exact a hc
 ·exact b m hc
theorem Yp{n:Nv}{x i:Int}(l:Le σ υ)(e:υ.mm=σ.mm.push n x):F7 σ υ i:=λ c' _ hc _ _=>by
 have e2:υ.mm.cs=gH n.kind σ.mm.cs x:=by rw[e];rfl
 show bV υ.mm.cs c'=_
 rw[e2]
 unfold gH
 split
 ·exact qE hc
 ·rfl
end
end

/- Procedures among others or alone: their labels, how many accesses they make, who settles what. -/
section
open Go Go.RowKit Go.Ct
structure Xp where
 H:ByteArray->Nat
 Q:Rs->Kw->Prop
 A:Tr->Prop
 C:Nat
 E:Kw->Prop
 R:Int->Int->Tr->Kw->Prop
 b:Bool
 al:Bool
structure Gg(X:Xp)(σ τ:Kw):Prop where
 le:Le σ τ
 inv:Inv X.H τ
 solo:X.b=false->τ=σ
def XT(X:Xp):Tr->Nat->Kw->Prop
 | .done r,_,σ=>X.E σ∨X.Q r σ
 | .load c k,n,σ=>X.E σ∨∃m,(n=m+1∨(X.A (.load c k)/\m=X.C))/\∀τ,Gg X σ τ->XT X (k (τ.ce c)) m τ
 | .nV c o v k,n,σ=>X.E σ∨∃m,n=m+1/\∀τ,Gg X σ τ->(iP τ.mm.cs c o->Le τ (τ.set c o v)/\Inv X.H (τ.set c o v)/\X.R c v (k true) (τ.set c o v)/\XT X (k true) m (τ.set c o v))/\(¬iP τ.mm.cs c o->XT X (k false) m τ)
 | .alloc nd i k,n,σ=>X.E σ∨((nd.kind=2->aX σ i)/\(X.al=true->∀υ,Le σ υ->Inv X.H υ->υ.mm=σ.mm.push nd i->XT X (k ((σ.len+1:Nat):Int)) n υ)/\(X.al=false->∃υ,Le σ υ/\Inv X.H υ/\υ.mm=σ.mm.push nd i/\XT X (k ((σ.len+1:Nat):Int)) n υ))
 | .cell i k,n,σ=>X.E σ∨((σ.nd i).kind=2/\(X.al=true->∀υ,Le σ υ->Inv X.H υ->υ.mm=⟨σ.mm.nodes,σ.mm.cs++[i],σ.mm.gen⟩->XT X (k ((σ.cl+1:Nat):Int)) n υ)/\(X.al=false->∃υ,Le σ υ/\Inv X.H υ/\υ.mm=⟨σ.mm.nodes,σ.mm.cs++[i],σ.mm.gen⟩/\XT X (k ((σ.cl+1:Nat):Int)) n υ))
 | .gen k,n,σ=>X.E σ∨((X.al=true->∀υ,Le σ υ->Inv X.H υ->υ.mm=⟨σ.mm.nodes,σ.mm.cs,σ.mm.gen+1⟩->XT X (k (σ.mm.gen+1)) n υ)/\(X.al=false->∃υ,Le σ υ/\Inv X.H υ/\υ.mm=⟨σ.mm.nodes,σ.mm.cs,σ.mm.gen+1⟩/\XT X (k (σ.mm.gen+1)) n υ))
 | .node r k,n,σ=>X.E σ∨(r<=σ.len/\XT X (k (σ.nd r)) n σ)
 | .stuck,_,_=>True
section
variable{X:Xp}{σ τ υ:Kw}
theorem Gg.refl(i:Inv X.H σ):Gg X σ σ:=⟨Le.refl σ,i,λ _=>rfl⟩
theorem Gg.trans(i0:Inv X.H σ)(h:Gg X σ τ)(h2:Gg X τ υ):Gg X σ υ:=⟨h.le.trans i0 h.inv h2.le,h2.inv,λ e=>(h2.solo e).trans (h.solo e)⟩
theorem XT.stop{t:Tr}{n:Nat}(h:X.E σ):XT X t n σ:=by cases t<;>first|exact .inl h|trivial
theorem XT.mono:∀{t:Tr} {n m:Nat} {σ:Kw},n<=m->XT X t n σ->XT X t m σ:=by
 intro t
 induction t with
 | done r=>intro n m σ _ h;exact h
 | stuck=>intro n m σ _ _;trivial
 | load c k ih =>
  intro n m σ hnm h
  rcases h with h|⟨q,e,h⟩
  ·exact .inl h
  ·rcases e with e|e
   ·exact .inr ⟨m-1,.inl (by omega),λ τ hg=>ih _ (by omega) (h τ hg)⟩
   ·exact .inr ⟨q,.inr e,h⟩
 | nV c o v k ih =>
  intro n m σ hnm h
  rcases h with h|⟨q,e,h⟩
  ·exact .inl h
  ·refine .inr ⟨m-1,by omega,λ τ hg=>⟨λ hc=>?_,λ hc=>ih _ (by omega) ((h τ hg).2 hc)⟩⟩
   obtain⟨a,b,r,d⟩:=(h τ hg).1 hc
   exact⟨a,b,r,ih _ (by omega) d⟩
 | alloc nd i k ih =>
  intro n m σ hnm h
  rcases h with h|⟨a,b,d⟩
  ·exact .inl h
  ·refine .inr ⟨a,λ ha υ l i1 e=>ih _ hnm (b ha υ l i1 e),λ ha=>?_⟩
   obtain⟨υ,l,i1,e,d⟩:=d ha
   exact⟨υ,l,i1,e,ih _ hnm d⟩
 | cell i k ih =>
  intro n m σ hnm h
  rcases h with h|⟨a,b,d⟩
  ·exact .inl h
  ·refine .inr ⟨a,λ ha υ l i1 e=>ih _ hnm (b ha υ l i1 e),λ ha=>?_⟩
   obtain⟨υ,l,i1,e,d⟩:=d ha
   exact⟨υ,l,i1,e,ih _ hnm d⟩
 | gen k ih =>
  intro n m σ hnm h
  rcases h with h|⟨b,d⟩
  ·exact .inl h
  ·refine .inr ⟨λ ha υ l i1 e=>ih _ hnm (b ha υ l i1 e),λ ha=>?_⟩
   obtain⟨υ,l,i1,e,d⟩:=d ha
   exact⟨υ,l,i1,e,ih _ hnm d⟩
 | node r k ih =>
  intro n m σ hnm h
  rcases h with h|⟨a,d⟩
  ·exact .inl h
  ·exact .inr ⟨a,ih _ hnm d⟩
theorem XT.fresh{c:Int}{k:Int->Tr}{n:Nat}(ha:X.A (.load c k))(h:XT X (.load c k) (X.C+1) σ):XT X (.load c k) n σ:=by
 rcases h with h|⟨q,e,h⟩
 ·exact .inl h
 ·refine .inr ⟨X.C,.inr ⟨ha,rfl⟩,λ τ hg=>?_⟩
  have:=h τ hg
  rcases e with e|e
  ·rwa [show q=X.C by omega] at this
  ·rwa [e.2] at this
theorem cG{r:Int}{k:Nv->Tr}{n:Nat}(h:r<=σ.len)(w:XT X (k (σ.nd r)) n σ):XT X (.node r k) n σ:=.inr ⟨h,w⟩
theorem nJ{c:Int}{k:Int->Tr}{n:Nat}(h:∀τ,Gg X σ τ->XT X (k (τ.ce c)) n τ):XT X (.load c k) (n+1) σ:=.inr ⟨n,.inl rfl,h⟩
structure aAj(X:Xp)(σ τ:Kw)(c o v:Int)(bb:Bool):Prop where
 t:bb=true->τ.ce c=v
 f:bb=false->τ.ce c≠o
 s:X.b=false->(bb=true/\σ.ce c=o/\Xw X.H σ τ c v)∨(bb=false/\τ=σ)
structure Ug(X:Xp):Prop where
 r0:∀c v t υ,(∀i,υ.ct c≠.main i)->υ.ct c≠.root->X.R c v t υ
 r1:∀c v t υ i,υ.ct c=.main i->aX υ v->X.R c v t υ
 r2:∀υ t i w g m K,Inv X.H υ->bR υ t->nM υ i w g->mC υ m w g->X.R (υ.nd i).main m (uX t i m K) υ
 r3:∀c v t υ,υ.ct c=.root->(υ.nd v).kind=2->X.R c v t υ
 r4:∀υ t d (K:Int->Int->Tr),Inv X.H υ->bR υ t->t.ro=false->(υ.nd d).kind=8->X.R t.root d (vK t d (.node d λ nd=>.load nd.status λ s=>Ga t d s (K s))) υ
theorem Bg{c o v:Int}{k:Bool->Tr}{n:Nat}(h1:1<=c)(h2:c<=σ.cl)(i0:Inv X.H σ)(hset:∀τ,Le σ τ->Inv X.H τ->iP τ.mm.cs c o->S3 τ c o v)
  (hR:∀υ,Le σ υ->Inv X.H υ->υ.ce c=v->X.R c v (k true) υ)
  (hk:∀τ bb,Le σ τ->Inv X.H τ->aAj X σ τ c o v bb->XT X (k bb) n τ):XT X (.nV c o v k) (n+1) σ :=
 .inr ⟨n,rfl,λ τ hg=>⟨λ hc=>by
  obtain⟨l2,i2,e3⟩:=iv hg.inv hc (hset τ hg.le hg.inv hc)
  have l:=hg.le.trans i0 hg.inv l2
  refine⟨l2,i2,hR _ l i2 e3,hk _ true l i2 ⟨λ _=>e3,λ h=>(nomatch h),λ hb=>.inl ⟨rfl,?_⟩⟩⟩
  have e:=hg.solo hb
  subst e
  refine⟨tT hc,l2,i2,e3,λ x hx=>?_⟩
  show bV (fZ τ.mm.cs c o v) x=_
  rw[jF hc,if_neg hx],
 λ hc=>hk τ false hg.le hg.inv ⟨λ h=>(nomatch h),λ _=>yb h1 (by have:=hg.le.cl;simp only[Kw.cl] at *;omega) hc,λ hb=>.inr ⟨rfl,hg.solo hb⟩⟩⟩⟩
variable{w:List Nat}{g:Int}
theorem Hf(cs:List Int)(x:Int):bV (cs++[x]) ((cs.length+1:Nat):Int)=x:=by
 unfold bV
 rw[if_pos ⟨by omega,by simp⟩,show(((cs.length+1:Nat):Int)-1).toNat=cs.length by omega]
 simp[fI]
structure Pa(σ υ:Kw)(n:Nv)(c r:Int):Prop where
 mm:υ.mm=σ.mm.push n c
 re:r=((σ.len+1:Nat):Int)
 nd:υ.nd r=cS n σ.cl
 r1:1<=r
 r2:r<=υ.len
structure dz(σ υ:Kw)(n:Nv)(c r:Int)(w:List Nat)(g:Int):Prop extends Pa σ υ n c r where
 way:υ.way r=w
 gb:υ.gb r=g
theorem Du{n:Nv}{c:Int}(e:υ.mm=σ.mm.push n c):Pa σ υ n c ((σ.len+1:Nat):Int):=by
 have hl:υ.len=σ.len+1:=by simp only[Kw.len,e,Mm.push,List.length_append,List.length_cons,List.length_nil]
 refine⟨e,rfl,?_,by omega,by omega⟩
 show cB υ.mm.nodes _=_
 rw[e]
 simp only[Mm.push,cB,List.length_append,List.length_cons,List.length_nil]
 rw[if_pos ⟨by omega,by simp only[Kw.len];omega⟩]
 have e:(((σ.len+1:Nat):Int)-1).toNat=σ.mm.nodes.length:=by simp only[Kw.len];omega
 rw[e]
 simp[fI]
theorem Pa.ce{n:Nv}{c r x:Int}(h:Pa σ υ n c r)(hx:x<=σ.cl):υ.ce x=σ.ce x:=by
 have e2:υ.mm.cs=gH n.kind σ.mm.cs c:=by rw[h.mm];rfl
 show bV υ.mm.cs x=_
 rw[e2]
 unfold gH
 split
 ·exact qE hx
 ·rfl
theorem Pa.m6{n:Nv}{c r i:Int}(h:Pa σ υ n c r)(l:Le σ υ):F7 σ υ i:=Yp l h.mm
theorem Pa.new{n:Nv}{c r:Int}(h:Pa σ υ n c r)(hk:n.kind=2∨n.kind=3∨n.kind=5∨n.kind=6∨n.kind=8):υ.ce ((σ.cl+1:Nat):Int)=c:=by
 have e2:υ.mm.cs=σ.mm.cs++[c]:=by rw[h.mm];unfold Mm.push gH;dsimp only;rw[if_pos hk]
 show bV υ.mm.cs _=c
 rw[e2]
 exact Hf _ _
theorem Pa.prev{n:Nv}{c r:Int}(h:Pa σ υ n c r)(hk:bU n):υ.ce (υ.nd r).prev=c:=by
 have hk':n.kind=3∨n.kind=5∨n.kind=6:=hk
 rw[h.nd,show(cS n σ.cl).prev=((σ.cl+1:Nat):Int) from if_pos hk']
 exact h.new (by omega)
theorem Pa.main{n:Nv}{c r:Int}(h:Pa σ υ n c r)(hk:n.kind=2):υ.ce (υ.nd r).main=c:=by
 rw[h.nd,show(cS n σ.cl).main=((σ.cl+1:Nat):Int) from if_pos hk]
 exact h.new (.inl hk)
theorem Pa.stat{n:Nv}{c r:Int}(h:Pa σ υ n c r)(hk:n.kind=8):υ.ce (υ.nd r).status=c:=by
 rw[h.nd,show(cS n σ.cl).status=((σ.cl+1:Nat):Int) from if_pos hk]
 exact h.new (.inr (.inr (.inr (.inr hk))))
theorem hU{nd:Nv}{c:Int}{k:Int->Tr}{n:Nat}(hal:X.al=false)(i0:Inv X.H σ)(hn:jH X.H σ nd w g)(hc:U5 σ nd c w g)
  (hk:∀υ r,Le σ υ->Inv X.H υ->dz σ υ nd c r w g->XT X (k r) n υ) (h2:nd.kind=2->aX σ c:=by intro h;first|exact cX (a:=3) (b:=2) h|exact cX (a:=4) (b:=2) h|exact cX (a:=5) (b:=2) h|exact cX (a:=6) (b:=2) h|exact cX (a:=7) (b:=2) h|exact cX (a:=8) (b:=2) h|exact absurd h (bU.ne0 (by assumption)).2.2.1):XT X (.alloc nd c k) n σ:=by
 obtain⟨υ,l2,i2,e2,e3,e4,e5⟩:=Yx i0 hn hc
 exact .inr ⟨h2,λ h=>(by rw[hal] at h;cases h),λ _=>⟨υ,l2,i2,e2,hk υ _ l2 i2 ⟨Du e2,e4,e5⟩⟩⟩
theorem jb{nd:Nv}{c:Int}{k:Int->Tr}{n:Nat}(i0:Inv X.H σ)(hn:jH X.H σ nd w g)(hc:U5 σ nd c w g)(h2:nd.kind≠2)
  (hk:∀υ r,Le σ υ->Inv X.H υ->Pa σ υ nd c r->XT X (k r) n υ):XT X (.alloc nd c k) n σ:=by
 obtain⟨υ,l2,i2,e2,e3,e4,e5⟩:=Yx i0 hn hc
 exact .inr ⟨λ h=>absurd h h2,λ _ υ l i1 e=>hk υ _ l i1 (Du e),λ _=>⟨υ,l2,i2,e2,hk υ _ l2 i2 (Du e2)⟩⟩
end
end

end Go.Proofs.YtadnboagdhcedaaGreatDoor
