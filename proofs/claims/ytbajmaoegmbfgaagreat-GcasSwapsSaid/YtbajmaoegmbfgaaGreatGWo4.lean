/- Worlds: the call of an operation. -/
import Derived.Test.YtbajmaoegmbfgaaGreatGWo1
import Derived.Test.YtbajmaoegmbfgaaGreatGAr8
import Derived.Test.YtbajmaoegmbfgaaGreatGEx18
import Derived.Test.YtbajmaoegmbfgaaGreatGTr3

set_option linter.unusedSimpArgs false
set_option linter.unusedVariables false
namespace Go.Proofs.YtbajmaoegmbfgaaGreat
section
open Go Go.RowKit Go.Ct
theorem wv{ts:List gO}{j:Nat}(h:j<ts.length):((sS ts).drop (2*j)).take 2=[.int .i64 (ts.getD j ⟨0,false⟩).root,.bool (ts.getD j ⟨0,false⟩).ro]:=by
 induction ts generalizing j with
 | nil=>simp at h
 | cons t ts ih =>
  cases j with
  | zero=>simp[sS]
  | succ j =>
   have:=ih (j:=j) (by simpa using h)
   rw[show 2*(j+1)=2*j+1+1 by omega]
   simpa[sS] using this
section
variable{P:Program}{S:List (Nat×Value)}{d:Nat}{ty t t' e:TypeId}{pos:String}{af:Array Edge}{gd:Option (Nat×Bool)}{x y:Operand}{w0 w:World}{M:List Nat}{H:List (Nat×Obj)}{A F:Fr}{O:List Ow}{a:Option Addr}
theorem Gu{ts:List gO}{q:Nat}(hx:ev S x=.pointer (some ⟨cN a,dX a+2*q,none⟩))(ht:iQ P t 2=true)(hf:qC A F O a (sS ts))(hq:q<ts.length) :
  aL P S (SF w0 M H A F O) ⟨some d,.load t x,ty,pos,af,gd⟩ (.agg ⟨[.int .i64 (ts.getD q ⟨0,false⟩).root,.bool (ts.getD q ⟨0,false⟩).ro]⟩):=Fy hx ht hf (wv hq) rfl
end
structure G7 where
 key:ByteArray
 val:Int
 exp:Int
 Iq:Int
 only:Bool
 t:gO
 pos:Nat
def G7.cl(q:G7)(kind mask:Int):Cl:=⟨kind,q.t,0,0,0,0,0,mask,q.key,q.val,q.exp,q.Iq,q.only⟩
def wrK(kind:Int):Prop:=kind=8∨kind=9∨kind=12∨kind=4
structure Qs(kind:Int)(ts:List gO)(q:G7):Prop where
 ky:q.key∈lG
 mem:q.t∈ts
 ro:wrK kind->q.t.ro=false
theorem pB{v:Nat}(h:v<8):lG.getD v ⟨#[]⟩∈lG:=by
 have:v=0∨v=1∨v=2∨v=3∨v=4∨v=5∨v=6∨v=7:=by omega
 rcases this with rfl|rfl|rfl|rfl|rfl|rfl|rfl|rfl<;>simp[lG]
theorem Av{ts:List gO}{j:Nat}(h:j<ts.length):ts.getD j ⟨0,false⟩∈ts:=by
 rw[jJ,List.getElem?_eq_getElem h];exact List.getElem_mem h
section
variable{P:Program}{S:List (Nat×Value)}{G:World->Prop}{d:Nat}{ty t t':TypeId}{pos:String}{af:Array Edge}{gd:Option (Nat×Bool)}{x y:Operand}
theorem bs{a b:Nat}(hx:ev S x=.int .i64 ((a:Nat):Int))(hy:ev S y=.int .i64 ((b:Nat):Int))(h0:b≠0):aL P S G ⟨some d,.binOp .rem t x y t',ty,pos,af,gd⟩ (.int .i64 ((a%b:Nat):Int)):=by
 have:=du (P:=P) (G:=G) (d:=d) (ty:=ty) (pos:=pos) (af:=af) (gd:=gd) (t:=t) (t':=t') hx hy (by omega)
 rwa [Int.tmod_eq_emod_of_nonneg (by omega),<- Int.natCast_emod] at this
end
section
variable{bw bm tb:Nat}{D:List Nat}{A:Fr}{w:World}{mask:Int}{ts:List gO}{pt pe:Option Addr}{kt ke ne:Nat}{l:List Int}{a:Option Addr}{c p:Nat}
set_option maxRecDepth 100000 in
set_option maxHeartbeats 2000000 in
theorem sb(kind:Int)(hkd:7<=kind/\kind<=12)(hl:l.length<=17592186043904)(h0:0<ts.length)(hts:ts.length<=1000)(hr0:(ts.getD 0 ⟨0,false⟩).ro=false)
  (hs:SF w D [(tb,Bg a l c p),(bw,lE bm mask pt ts.length kt pe ne ke)] [(a,aG l)] [] [⟨pt,sS ts,kt,29,2⟩] w) :
  Calls Tryz.prog 54 #[.pointer (some ⟨bw,0,none⟩),.int .i64 kind,.pointer (some ⟨tb,0,none⟩)] w λ e w'=>∃q:G7,e=.returned (.agg ⟨Rb (q.cl kind mask)⟩)/\Qs kind ts q /\
   SF w D [(tb,Bg a l c q.pos),(bw,lE bm mask pt ts.length kt pe ne ke)] [] [] [⟨pt,sS ts,kt,29,2⟩] w':=by
 refine enter Tryz.func54 Tryz.ntmps54 rfl rfl hs ?_
 simp only[bX]
 refine J0 ?_;refine aJ (λ x6=>?_);refine Ra ?_
 refine eF [7,12,13,14,15,16,17,18,19,20,21,22,23,24,25,26,27,28,29,30] (λ y:Nat×G7=>[(7,.pointer (some ⟨y.1,0,none⟩))]) (λ y=>y.2.key∈lG) (λ y=>[(y.1,.cells ⟨Rb (y.2.cl kind mask)⟩ 89 (0,0)),(x6,.cells ⟨Rb ⟨0,⟨0,false⟩,0,0,0,0,0,0,⟨#[]⟩,0,0,0,false⟩⟩ 89 (0,0)),(tb,Bg a l c y.2.pos),(bw,lE bm mask pt ts.length kt pe ne ke)]) (λ _=>[]) (λ _=>[⟨pt,sS ts,kt,29,2⟩]) (by decide) (λ _=>by exact rfl) ?_ (λ y f hx=>?_)
 ·refine fW (.one 0 [] (.one 1 [] (.one 2 [] (.one 3 [] (.one 4 [] (.one 5 [] (.one 7 [] (.one 10 [] (.one 13 [] (.one 15 [] (.two 6 [4] (.two 8 [4] (.one 9 [] (.two 11 [4] (.one 12 [] (.two 14 [4] (.two 16 [4] (.one 17 [] (.one 18 [] (.one 19 [4] (.one 20 [] .nil)))) 0 [] (.two 19 [4] (.one 16 [4] (.one 17 [] (.one 18 [] (.one 20 [] .nil)))) 0 [] .nil)) 0 [] (.two 19 [4] (.one 14 [4] (.one 16 [4] (.one 17 [] (.one 18 [] (.one 20 [] .nil))))) 0 [] .nil))) 0 [] (.two 19 [4] (.one 11 [4] (.one 12 [] (.one 14 [4] (.one 16 [4] (.one 17 [] (.one 18 [] (.one 20 [] .nil))))))) 0 [] .nil))) 0 [] (.two 19 [4] (.one 8 [4] (.one 9 [] (.one 11 [4] (.one 12 [] (.one 14 [4] (.one 16 [4] (.one 17 [] (.one 18 [] (.one 20 [] .nil))))))))) 0 [] .nil)) 0 [] (.two 19 [4] (.one 6 [4] (.one 8 [4] (.one 9 [] (.one 11 [4] (.one 12 [] (.one 14 [4] (.one 16 [4] (.one 17 [] (.one 18 [] (.one 20 [] .nil)))))))))) 0 [] .nil)))))))))))) ?_
  refine W9 ?_;refine iH ?_;refine iH ?_;refine aN ?_
  refine gK (E:=[6,19]) (by decide +kernel) ((.cons ?_ (.cons ?_ .nil)))
  ·refine kZ (i:=6) (hq:=(uG (hc:=λ w1 hw=>td (hw.tape cQ fin hl)))) (h:=λ x18 h18=>?_)
   refine gK (E:=[8,19]) (by decide +kernel) ((.cons ?_ (.cons ?_ .nil)))
   ·refine kZ (i:=8) (hq:=(uG (hc:=λ w1 hw=>eH 6 (hw.tape cQ fin hl) (by decide) (by decide)))) (h:=λ x20 h20=>?_)
    refine nD ?_
    refine gK (E:=[11,19]) (by decide +kernel) ((.cons ?_ (.cons ?_ .nil)))
    ·refine kZ (i:=11) (hq:=(uG (hc:=λ w1 hw=>eH 6 (hw.tape cQ fin hl) (by decide) (by decide)))) (h:=λ x23 h23=>?_)
     refine nD ?_
     refine gK (E:=[14,19]) (by decide +kernel) ((.cons ?_ (.cons ?_ .nil)))
     ·refine kZ (i:=14) (hq:=(uG (hc:=λ w1 hw=>eH 4 (hw.tape cQ fin hl) (by decide) (by decide)))) (h:=λ x26 h26=>?_)
      refine gK (E:=[16,19]) (by decide +kernel) ((.cons ?_ (.cons ?_ .nil)))
      ·refine kZ (i:=16) (hq:=(uG (hc:=λ w1 hw=>eH 3 (hw.tape cQ fin hl) (by decide) (by decide)))) (h:=λ x28 h28=>?_)
       refine lW ?_;refine gH ?_;refine gI (h:=λ x7=>?_);refine yE ?_
       refine eW ((x7,⟨lG.getD x18 ⟨#[]⟩,((x20:Nat):Int),((x23:Nat):Int),((x26:Nat):Int),((x28:Nat):Int)==0,⟨0,false⟩,kG l (kG l (kG l (kG l (kG l p))))⟩)) ?_
       ·exact pB h18.1
      ·refine gG (i:=19) (h:=λ x7=>?_)
       refine aZ (i:=16) (hq:=(uG (hc:=λ w1 hw=>eH 3 (hw.tape cQ fin hl) (by decide) (by decide)))) (h:=λ x28 h28=>?_);refine lW ?_;refine gH ?_;refine yE ?_
       refine eW ((x7,⟨lG.getD x18 ⟨#[]⟩,((x20:Nat):Int),((x23:Nat):Int),((x26:Nat):Int),((x28:Nat):Int)==0,⟨0,false⟩,kG l (kG l (kG l (kG l (kG l p))))⟩)) ?_
       ·exact pB h18.1
     ·refine gG (i:=19) (h:=λ x7=>?_)
      refine aZ (i:=14) (hq:=(uG (hc:=λ w1 hw=>eH 4 (hw.tape cQ fin hl) (by decide) (by decide)))) (h:=λ x26 h26=>?_);refine aZ (i:=16) (hq:=(uG (hc:=λ w1 hw=>eH 3 (hw.tape cQ fin hl) (by decide) (by decide)))) (h:=λ x28 h28=>?_);refine lW ?_;refine gH ?_;refine yE ?_
      refine eW ((x7,⟨lG.getD x18 ⟨#[]⟩,((x20:Nat):Int),((x23:Nat):Int),((x26:Nat):Int),((x28:Nat):Int)==0,⟨0,false⟩,kG l (kG l (kG l (kG l (kG l p))))⟩)) ?_
      ·exact pB h18.1
    ·refine gG (i:=19) (h:=λ x7=>?_)
     refine aZ (i:=11) (hq:=(uG (hc:=λ w1 hw=>eH 6 (hw.tape cQ fin hl) (by decide) (by decide)))) (h:=λ x23 h23=>?_);refine nD ?_;refine aZ (i:=14) (hq:=(uG (hc:=λ w1 hw=>eH 4 (hw.tape cQ fin hl) (by decide) (by decide)))) (h:=λ x26 h26=>?_);refine aZ (i:=16) (hq:=(uG (hc:=λ w1 hw=>eH 3 (hw.tape cQ fin hl) (by decide) (by decide)))) (h:=λ x28 h28=>?_);refine lW ?_;refine gH ?_;refine yE ?_
     refine eW ((x7,⟨lG.getD x18 ⟨#[]⟩,((x20:Nat):Int),((x23:Nat):Int),((x26:Nat):Int),((x28:Nat):Int)==0,⟨0,false⟩,kG l (kG l (kG l (kG l (kG l p))))⟩)) ?_
     ·exact pB h18.1
   ·refine gG (i:=19) (h:=λ x7=>?_)
    refine aZ (i:=8) (hq:=(uG (hc:=λ w1 hw=>eH 6 (hw.tape cQ fin hl) (by decide) (by decide)))) (h:=λ x20 h20=>?_);refine nD ?_;refine aZ (i:=11) (hq:=(uG (hc:=λ w1 hw=>eH 6 (hw.tape cQ fin hl) (by decide) (by decide)))) (h:=λ x23 h23=>?_);refine nD ?_;refine aZ (i:=14) (hq:=(uG (hc:=λ w1 hw=>eH 4 (hw.tape cQ fin hl) (by decide) (by decide)))) (h:=λ x26 h26=>?_);refine aZ (i:=16) (hq:=(uG (hc:=λ w1 hw=>eH 3 (hw.tape cQ fin hl) (by decide) (by decide)))) (h:=λ x28 h28=>?_);refine lW ?_;refine gH ?_;refine yE ?_
    refine eW ((x7,⟨lG.getD x18 ⟨#[]⟩,((x20:Nat):Int),((x23:Nat):Int),((x26:Nat):Int),((x28:Nat):Int)==0,⟨0,false⟩,kG l (kG l (kG l (kG l (kG l p))))⟩)) ?_
    ·exact pB h18.1
  ·refine gG (i:=19) (h:=λ x7=>?_)
   refine aZ (i:=6) (hq:=(uG (hc:=λ w1 hw=>td (hw.tape cQ fin hl)))) (h:=λ x18 h18=>?_);refine aZ (i:=8) (hq:=(uG (hc:=λ w1 hw=>eH 6 (hw.tape cQ fin hl) (by decide) (by decide)))) (h:=λ x20 h20=>?_);refine nD ?_;refine aZ (i:=11) (hq:=(uG (hc:=λ w1 hw=>eH 6 (hw.tape cQ fin hl) (by decide) (by decide)))) (h:=λ x23 h23=>?_);refine nD ?_;refine aZ (i:=14) (hq:=(uG (hc:=λ w1 hw=>eH 4 (hw.tape cQ fin hl) (by decide) (by decide)))) (h:=λ x26 h26=>?_);refine aZ (i:=16) (hq:=(uG (hc:=λ w1 hw=>eH 3 (hw.tape cQ fin hl) (by decide) (by decide)))) (h:=λ x28 h28=>?_);refine lW ?_;refine gH ?_;refine yE ?_
   refine eW ((x7,⟨lG.getD x18 ⟨#[]⟩,((x20:Nat):Int),((x23:Nat):Int),((x26:Nat):Int),((x28:Nat):Int)==0,⟨0,false⟩,kG l (kG l (kG l (kG l (kG l p))))⟩)) ?_
   ·exact pB h18.1
 dsimp only[gX,List.map,List.cons_append,List.nil_append]
 have hy:=hx
 refine J2 ?_;refine mK ?_;refine aA ?_
 (refine dZ 33 (λ g33=>?_) (λ g33=>?_)<;>(try (exfalso;omega))<;>((refine aF ?_;refine aA ?_)))
 ((refine aF ?_;refine mK ?_));refine cA ?_;refine J1 ?_;refine J2 ?_;refine mK ?_;refine aA ?_
 (refine dZ 39 (λ g39=>?_) (λ g39=>?_)<;>(first|refine aI ?_|(refine aF ?_;refine aA ?_)))
 all_goals ((first|refine aI ?_|(refine aF ?_;refine mK ?_));refine cA ?_;refine aA ?_)
 all_goals (first|refine aI ?_|(refine dZ 43 (λ g43=>?_) (λ g43=>?_)<;>(first|refine aI ?_|(refine aF ?_;refine aA ?_))))
 all_goals ((first|refine aI ?_|(refine aF ?_;refine mK ?_));refine cA ?_;refine aA ?_)
 all_goals (first|refine aI ?_|(refine dZ 47 (λ g47=>?_) (λ g47=>?_)<;>(first|refine aI ?_|(refine aF ?_;refine aA ?_))))
 all_goals ((first|refine aI ?_|(refine aF ?_;refine mK ?_));refine cA ?_;refine yA ?_;refine dC ?_;refine Nf ?_;refine aD (uG (hc:=λ w1 hw=>eH ts.length (hw.tape cQ fin hl) (by omega) (by omega))) (λ x57 h57=>?_);refine hZ ?_;refine Dd ?_)
 all_goals
 refine mV [11,58,59,60,61,62,63,64,65,66,67,68,69,70,71,72,73,74,75,76,77,78,79,80,81,82,83,84,85,86,87,88,89,90,91,92,93,94,95,96,97,98,99,100] (λ z:Nat×gO=>[(11,.int .i64 ((z.1:Nat):Int))]) (λ z=>z.1<=ts.length) (λ z=>[(y.1,.cells ⟨Rb (({y.2 with t:=z.2}:G7).cl kind mask)⟩ 89 (0,0)),(x6,.cells ⟨Rb ⟨0,⟨0,false⟩,0,0,0,0,0,0,⟨#[]⟩,0,0,0,false⟩⟩ 89 (0,0)),(tb,Bg a l c (kG l y.2.pos)),(bw,lE bm mask pt ts.length kt pe ne ke)]) (λ _=>_) (λ _=>_) (λ z=>ts.length-z.1) ((0,y.2.t)) (Nat.zero_le _) (λ z f hx=>?_)
 dsimp only[gX,List.map,List.cons_append,List.nil_append]
 all_goals (refine Cz ?_;refine dC ?_;refine Nf ?_;refine wT ?_)
 all_goals
  refine bB (λ c64=>?_) (λ c64=>?_)
  ·all_goals try (exfalso;omega)
   all_goals (refine qB ?_;refine aV ?_;refine gF [0,1,2,3,4,5,6,7,8,9,10,11,12,13,14,15,16] ?_;refine T6 ?_;refine iH ?_;refine cC (i:=6) (hq:=(oH (m:=x57) (n:=z.1) rf rf (by omega))) (h:=?_);refine T6 ?_;refine oA ?_;refine cC (i:=12) (hq:=(bs (a:=x57+z.1) (b:=ts.length) rf rf (by omega))) (h:=?_);refine bQ (i:=13) (hq:=(wI (cs:=sS ts) (k:=(x57+z.1)%ts.length) rf rf fU eA fin (Nat.mod_lt _ h0) (by rw[lB];have:=Nat.mod_lt (x57+z.1) h0;omega))) (h:=?_);refine bQ (i:=14) (hq:=(Gu (ts:=ts) (q:=(x57+z.1)%ts.length) rf eA fin (Nat.mod_lt _ h0))) (h:=?_);refine aR ?_;refine kH (i:=16) (hq:=(jF λ _=>lK (off:=1) (vs:=[.int .i64 (ts.getD ((x57+z.1)%ts.length) ⟨0,false⟩).root,.bool (ts.getD ((x57+z.1)%ts.length) ⟨0,false⟩).ro]) rf cQ rf rfl eA (Nat.le_of_ble_eq_true rfl) rf lJ)) (h:=λ _=>?_);refine dW ?_;refine J0 ?_;refine aE ?_;refine J3 ?_;refine aA ?_)
   all_goals ((refine dZ 86 (λ g86=>?_) (λ g86=>?_)<;>(first|refine aI ?_|(refine aF ?_;refine aA ?_))))
   all_goals ((first|refine aI ?_|(refine aF ?_;refine yV ?_));refine cA ?_;refine aA ?_)
   all_goals (first|(refine aF ?_;refine aE ?_)|(refine dZ 90 (λ g90=>?_) (λ g90=>?_)<;>(try (exfalso;omega))<;>(refine aI ?_)))
   all_goals ((first|refine aI ?_|(refine aF ?_;refine aE ?_));(first|refine aI ?_|(refine aF ?_;refine bN ?_));(first|refine aI ?_|(refine aF ?_;refine yV ?_));(first|refine aI ?_|(refine aF ?_;refine aA ?_)))
   all_goals (first|refine zZ ?_|(refine dZ 95 (λ g95=>?_) (λ g95=>?_)<;>(first|refine aI ?_|(refine aF ?_;refine aA ?_))))
   all_goals ((first|refine aI ?_|refine zZ ?_|(refine aF ?_;refine yV ?_));(first|refine aI ?_|(refine aF ?_;refine cA ?_));refine cA ?_;refine aH ?_)
   all_goals
   refine bB (λ c99=>?_) (λ c99=>?_)
   ·try exact nv c99
    all_goals (refine nK ?_;refine J5 ?_)
    all_goals
     refine bC Tryz.results54 (λ w hw=>?_)
     exact⟨{y.2 with t:=ts.getD ((x57+z.1)%ts.length) ⟨0,false⟩,pos:=kG l y.2.pos},rfl,⟨hy,Av (Nat.mod_lt _ h0),λ hk=>by first|(simp_all;done)|(unfold wrK at hk;exfalso;omega)⟩,hw.aU⟩
   ·try exact nv c99
    all_goals try (exfalso;omega)
    all_goals (refine nT ?_;refine uJ ?_)
    all_goals
     refine iP ((z.1+1,ts.getD ((x57+z.1)%ts.length) ⟨0,false⟩)) ?_
     ·omega
  ·all_goals try (exfalso;omega)
   all_goals (refine bM rfl ?_;refine lR ?_;refine aC (wI (cs:=sS ts) (k:=0) rf rf fU eA fin h0 (by rw[lB];omega)) rfl ?_;refine aC (Gu (ts:=ts) (q:=0) rf eA fin h0) rfl ?_;refine aE ?_;refine cZ (jF λ _=>lK (off:=1) (vs:=[.int .i64 (ts.getD 0 ⟨0,false⟩).root,.bool (ts.getD 0 ⟨0,false⟩).ro]) rf cQ rf rfl eA (Nat.le_of_ble_eq_true rfl) rf lJ) (λ _=>?_);refine aH ?_;refine nK ?_;refine J5 ?_)
   all_goals
   refine bC Tryz.results54 (λ w hw=>?_)
   exact⟨{y.2 with t:=ts.getD 0 ⟨0,false⟩,pos:=kG l y.2.pos},rfl,⟨hy,Av h0,λ _=>hr0⟩,hw.aU⟩
end
end

/- Tries of worlds: a cell is set; nodes and cells are added. -/
section
open Go.Ct
section
variable{H:ByteArray->Nat}{σ τ υ:Kw}{r:Int}{w:List Nat}
theorem mZ{cs:List Int}{c o v:Int}(h:kB cs c o)(c':Int):bU (eT cs c o v) c'=if c'=c then v else bU cs c':=by
 have hl:=iF (cs:=cs) (c:=c) (bI:=o) (new:=v)
 obtain⟨h1,h2,h3⟩:=h
 have e:eT cs c o v=cs.set (c-1).toNat v:=if_pos ⟨h1,h2,h3⟩
 unfold bU
 rw[hl]
 by_cases hc:1<=c'/\c'<=cs.length
 ·rw[if_pos hc,if_pos hc,e]
  by_cases e2:c'=c
  ·subst e2
   rw[if_pos rfl]
   rw[jJ,List.getElem?_set,if_pos rfl,if_pos (by omega)]
   rfl
  ·rw[if_neg e2]
   rw[jJ,List.getElem?_set,if_neg (by omega),jJ]
 ·rw[if_neg hc,if_neg hc,if_neg (by omega)]
theorem Ay{cs:List Int}{c o:Int}(h:kB cs c o):bU cs c=o:=by
 obtain⟨h1,h2,h3⟩:=h
 unfold bU
 rw[if_pos ⟨h1,h2⟩,h3]
theorem xB.in(h:xB σ r w):1<=r/\r<=σ.len:=eE (by rw[h.1];decide)
theorem qI.in{g:Int}(h:qI σ r w g):1<=r/\r<=σ.len:=jP h.1
theorem Inv.pP(i:Inv H σ){m:Int}(h:bZ (σ.nd m)):1<=(σ.nd m).prev/\(σ.nd m).prev<=σ.cl/\σ.ct (σ.nd m).prev=.prev m:=by
 have hr:=jP h
 have hn:=i.nd m hr.1 hr.2
 have hb:=hn.bd.prev
 rcases h with h|h|h
 ·have:=hn.k3 h;exact⟨this.2.2.2.1,hb,this.2.2.2.2⟩
 ·have:=hn.k5 h;exact⟨this.2.2.2.2.1,hb,this.2.2.2.2.2⟩
 ·have:=hn.k6 h;exact⟨this.2.2.2.1,hb,this.2.2.2.2⟩
theorem Inv.Aa(i:Inv H σ){r:Int}(h:(σ.nd r).kind=2):1<=(σ.nd r).main/\(σ.nd r).main<=σ.cl/\σ.ct (σ.nd r).main=.main r:=by
 have hr:=eE (N:=σ.mm.nodes) (i:=r) (by rw[h];decide)
 have hn:=i.nd r hr.1 hr.2
 exact⟨(hn.k2 h).2.1,hn.bd.main,(hn.k2 h).2.2⟩
theorem xB.up(h:xB σ r w)(l:Le σ τ):xB τ r w:=by
 have hr:=h.in
 exact⟨by rw[l.nd hr.2];exact h.1,by rw[l.way r hr.2];exact h.2⟩
theorem qI.up{g:Int}(h:qI σ r w g)(l:Le σ τ):qI τ r w g:=by
 have hr:=h.in
 exact⟨by rw[l.nd hr.2];exact h.1,by rw[l.way r hr.2];exact h.2.1,by rw[l.gb r hr.2];exact h.2.2⟩
theorem qI.le{g g':Int}(h:qI σ r w g)(hg:g<=g'):qI σ r w g':=⟨h.1,h.2.1,Int.le_trans h.2.2 hg⟩
theorem dR.up(i:Inv H σ)(hm:bZ (σ.nd r))(h:dR σ r)(l:Le σ τ):dR τ r:=by
 have hc:=i.pP hm
 unfold dR
 rw[l.nd (jP hm).2,l.done _ r hc.1 hc.2.1 hc.2.2 (by rw[h];exact kC (.inl (xT _)))]
 exact h
theorem my.same{c:Int}(h:my σ c)(hm:υ.mm.nodes=σ.mm.nodes)(hw:υ.way=σ.way)(hg:υ.gb=σ.gb)(hct:υ.ct=σ.ct)(hc:υ.ce c=σ.ce c)(hs:∀p,bZ (σ.nd p)->dR σ p->dR υ p):my υ c:=by
 have hl:υ.len=σ.len:=by simp only[Kw.len,hm]
 have hn:∀r,υ.nd r=σ.nd r:=λ r=>by simp only[Kw.nd,hm]
 have hM:∀p w g,qI σ p w g->qI υ p w g:=λ p w g h=>⟨by rw[hn];exact h.1,by rw[hw];exact h.2.1,by rw[hg];exact h.2.2⟩
 have hP:∀m p,pD σ m p->pD υ m p:=λ m p h=>⟨by rw[hw,hg];exact hM _ _ _ h.1,hs p h.1.1 h.2⟩
 refine⟨by rw[hc];exact h.lo,by rw[hc,hl];exact h.hi,λ i e=>?_,λ m e=>?_,λ d e=>?_,λ e=>?_,λ e=>?_⟩
 ·rw[hc,hw,hn]
  obtain⟨h0,h1⟩:=h.main i (by rw[<- hct];exact e)
  exact⟨h0,hM _ _ _ h1⟩
 ·rw[hc,hn,hn]
  obtain⟨h0,h⟩:=h.prev m (by rw[<- hct];exact e)
  refine⟨h0,?_⟩
  rcases h with h1|h1|⟨h1,h2⟩
  ·exact .inl h1
  ·exact .inr (.inl (hP _ _ h1))
  ·exact .inr (.inr ⟨h1,hP _ _ h2⟩)
 ·rw[hc];exact h.stat d (by rw[<- hct];exact e)
 ·rw[hc,hn]
  rcases h.root (by rw[<- hct];exact e) with h1|h1
  ·exact .inl ⟨by rw[hn];exact h1.1,by rw[hw];exact h1.2⟩
  ·exact .inr h1
 ·rw[hc]
  have h1:=h.rort (by rw[<- hct];exact e)
  exact⟨by rw[hn];exact h1.1,by rw[hw];exact h1.2⟩
theorem gJ.kR{N:List Nv}{cs:List Int}{gen c o v:Int}(h:gJ N cs gen)(lo:0<=v)(hi:v<=N.length):gJ N (eT cs c o v) gen:=by
 unfold eT
 split
 ·refine⟨h.two,h.gen0,h.m0,h.m1,λ i hi'=>?_,h.nodes,by rw[List.length_set];exact h.marks⟩
  rw[List.length_set] at hi'
  rw[jJ,List.getElem?_set]
  split
  ·rw[if_pos (by omega)]
   exact⟨lo,by rw[List.length_map];exact hi⟩
  ·rw[<- jJ]
   exact h.cells i hi'
 ·exact h
structure V0(σ:Kw)(c o v:Int):Prop where
 lo:0<=v
 hi:v<=σ.len
 main:∀i,σ.ct c=.main i->qI σ v (σ.way i) (σ.nd i).gen
 prev:∀m,σ.ct c=.prev m->bZ (σ.nd o)/\(v=0∨((σ.nd v).kind=7/\(σ.nd v).bI=o))
 stat:∀d,σ.ct c=.stat d->v=0∨v=1∨v=2
 root:σ.ct c=.root->xB σ v []∨(σ.nd v).kind=8
 rort:σ.ct c=.rort->xB σ v []
theorem yy{c o v:Int}(i:Inv H σ)(hk:kB σ.mm.cs c o)(hs:V0 σ c o v):∃υ,Le σ υ/\Inv H υ/\υ.mm=⟨σ.mm.nodes,eT σ.mm.cs c o v,σ.mm.gen⟩/\υ.ce c=v:=by
 refine⟨⟨⟨σ.mm.nodes,eT σ.mm.cs c o v,σ.mm.gen⟩,σ.way,σ.gb,σ.ct⟩,?_,?_,rfl,by show bU (eT _ _ _ _) c=v;rw[mZ hk,if_pos rfl]⟩
 ·refine⟨⟨[],by simp⟩,by simp only[Kw.cl,iF];exact Nat.le_refl _,Int.le_refl _,λ _ _=>rfl,λ _ _=>rfl,λ _ _=>rfl,λ c' m h1 hc e hm=>?_,λ c' m h1 hc e hm=>?_⟩
  ·show bU (eT _ _ _ _) c'=_
   rw[mZ hk]
   split
   ·rename_i e2
    subst e2
    exact absurd (by rw[show σ.ce c'=o from Ay hk];exact(hs.prev m e).1) hm
   ·rfl
  ·show bU (eT _ _ _ _) c'=_∨bU (eT _ _ _ _) c'=_∨_
   rw[mZ hk]
   split
   ·rename_i e2
    subst e2
    have e3:σ.ce c'=o:=Ay hk
    rcases(hs.prev m e).2 with h|h
    ·exact .inr (.inl h)
    ·refine .inr (.inr ?_)
     show(cB σ.mm.nodes (bU (eT _ _ _ _) c')).kind=7/\(cB σ.mm.nodes (bU (eT _ _ _ _) c')).bI=_
     rw[mZ hk,if_pos rfl,e3]
     exact h
   ·exact .inl rfl
 ·have hcl:(eT σ.mm.cs c o v).length=σ.cl:=iF
  refine⟨i.two,i.m1,i.m2,i.gen,gJ.kR i.prop hs.lo hs.hi,λ r h1 h2=>?_,λ c' h1 h2=>?_⟩
  ·have h:=i.nd r h1 h2
   exact⟨h.valid,h.gen,by simp only[Kw.cl,hcl];exact h.bd,h.k2,h.k3,h.k4,h.k5,h.k6,h.k7,h.k8⟩
  ·simp only[Kw.cl,hcl] at h2
   have hset:∀p,bZ (σ.nd p)->dR σ p->bU (eT σ.mm.cs c o v) (σ.nd p).prev=0:=λ p hm hp=>by
    rw[mZ hk]
    split
    ·rename_i e
     have hc:=(i.pP hm).2.2
     rw[e] at hc
     have h0:σ.ce (σ.nd p).prev=0:=hp
     rw[e,show σ.ce c=o from Ay hk] at h0
     have:=(hs.prev p hc).1
     rw[h0] at this
     exact absurd this (kC (.inl (xT _)))
    ·exact hp
   by_cases e:c'=c
   ·subst e
    have e2:bU (eT σ.mm.cs c' o v) c'=v:=by rw[mZ hk,if_pos rfl]
    have e3:σ.ce c'=o:=Ay hk
    refine⟨by simp only[Kw.ce,e2];exact hs.lo,by simp only[Kw.ce,e2];exact hs.hi,λ i' h=>?_,λ m h=>?_,λ d h=>?_,λ h=>?_,λ h=>?_⟩
    ·simp only[Kw.ce,e2];exact⟨((i.ce c' h1 h2).main i' h).1,hs.main i' h⟩
    ·simp only[Kw.ce,e2]
     have hp:=hs.prev m h
     have hold:pD σ m o:=by
      rcases((i.ce c' h1 h2).prev m h).2 with h3|h3|h3
      ·rw[e3] at h3;rw[h3] at hp;exact absurd hp.1 (kC (.inl (xT _)))
      ·rwa [e3] at h3
      ·rw[e3] at h3;exact absurd hp.1 (kC (.inr (.inl h3.1)))
     refine⟨((i.ce c' h1 h2).prev m h).1,?_⟩
     rcases hp.2 with h3|⟨h3,h4⟩
     ·exact .inl h3
     ·refine .inr (.inr ⟨h3,?_⟩)
      show pD _ m (σ.nd v).bI
      rw[h4]
      exact⟨hold.1,hset _ hp.1 hold.2⟩
    ·simp only[Kw.ce,e2];exact hs.stat d h
    ·simp only[Kw.ce,e2];exact hs.root h
    ·simp only[Kw.ce,e2];exact hs.rort h
   ·exact(i.ce c' h1 h2).same rfl rfl rfl rfl (by show bU (eT _ _ _ _) c'=_;rw[mZ hk,if_neg e]) hset
structure Ext(σ υ:Kw):Prop where
 nodes:∃N,υ.mm.nodes=σ.mm.nodes++N
 cs:∃C,υ.mm.cs=σ.mm.cs++C
 gen:σ.mm.gen<=υ.mm.gen
 way:∀r:Int,r<=σ.len->υ.way r=σ.way r
 gb:∀r:Int,r<=σ.len->υ.gb r=σ.gb r
 ct:∀c:Int,c<=σ.cl->υ.ct c=σ.ct c
theorem X9{cs C:List Int}{c:Int}(h:c<=cs.length):bU (cs++C) c=bU cs c:=by
 unfold bU
 by_cases h1:1<=c
 ·rw[if_pos ⟨h1,by simp;omega⟩,if_pos ⟨h1,h⟩,jJ,jJ,List.getElem?_append_left (by omega)]
 ·rw[if_neg (by omega),if_neg (by omega)]
theorem Ext.ce(e:Ext σ υ){c:Int}(h:c<=σ.cl):υ.ce c=σ.ce c:=by obtain⟨C,h2⟩:=e.cs;simp only[Kw.ce,h2];exact X9 h
theorem Ext.cl(e:Ext σ υ):σ.cl<=υ.cl:=by obtain⟨C,h2⟩:=e.cs;simp only[Kw.cl,h2,List.length_append];omega
theorem Ext.le(e:Ext σ υ):Le σ υ:=⟨e.nodes,e.cl,e.gen,e.way,e.gb,e.ct,λ _ _ _ h _ _=>e.ce h,λ _ _ _ h _ _=>.inl (e.ce h)⟩
theorem Mk.up{g b:Int}(h:Mk σ w g b)(l:Le σ υ):Mk υ w g b:=by
 rcases h with h|h
 ·have hr:=eE (N:=σ.mm.nodes) (i:=b) (by rw[h.1];decide)
  exact .inl (by rw[l.nd hr.2];exact h)
 ·have hr:=eE (N:=σ.mm.nodes) (i:=b) (by rw[h.1];decide)
  exact .inr (by rw[l.nd hr.2,l.way b hr.2];exact h)
theorem y5.ext(h:y5 H σ r)(hr:r<=σ.len)(e:Ext σ υ):y5 H υ r:=by
 have l:=e.le
 have hn:=l.nd hr
 have hw:=l.way r hr
 have hk:∀b,(σ.nd b).kind=2->(υ.nd b).kind=2:=λ b hb=>by rw[l.nd (eE (N:=σ.mm.nodes) (i:=b) (by rw[hb];decide)).2];exact hb
 refine⟨by rw[hn];exact h.valid,by rw[hn];have:=h.gen;have:=e.gen;omega,by rw[hn];exact h.bd.mono l.len l.cl,λ k=>?_,λ k=>?_,λ k=>?_,λ k=>?_,λ k=>?_,λ k=>?_,λ k=>?_⟩<;>rw[hn] at k ⊢
 ·obtain⟨h1,h2,h3⟩:=h.k2 k
  exact⟨by rw[hw];exact h1,h2,by rw[l.ct _ h.bd.main];exact h3⟩
 ·obtain⟨h1,h2,h3,h4,h5⟩:=h.k3 k
  rw[hw]
  refine⟨h1,λ k' b hb=>by rw[l.gb r hr];exact(h2 k' b hb).up l,λ h0=>⟨(h3 h0).1,λ b hb=>hk b ((h3 h0).2 b hb)⟩,h4,by rw[l.ct _ h.bd.prev];exact h5⟩
 ·exact h.k4 k
 ·rw[hw,l.ct _ h.bd.prev];exact h.k5 k
 ·rw[hw,l.ct _ h.bd.prev];exact h.k6 k
 ·have:=h.k7 k
  rw[l.nd (jP this).2];exact this
 ·obtain⟨h1,h2,h3,h4⟩:=h.k8 k
  exact⟨h1.up l,h2.up l,h3,by rw[l.ct _ h.bd.status];exact h4⟩
theorem my.ext{c:Int}(i:Inv H σ)(h:my σ c)(hc:c<=σ.cl)(e:Ext σ υ):my υ c:=by
 have l:=e.le
 have hv:=e.ce hc
 have hP:∀m p:Int,m<=σ.len->pD σ m p->pD υ m p:=λ m p hm hp=>⟨by rw[l.way m hm,l.gb m hm];exact hp.1.up l,dR.up i hp.1.1 hp.2 l⟩
 refine⟨by rw[hv];exact h.lo,by rw[hv];have:=h.hi;have:=l.len;omega,λ i' k=>?_,λ m k=>?_,λ d k=>?_,λ k=>?_,λ k=>?_⟩<;>rw[l.ct c hc] at k<;>rw[hv]
 ·obtain⟨h1,h2⟩:=h.main i' k
  have hr:=eE (N:=σ.mm.nodes) (i:=i') (by rw[h1];decide)
  rw[l.nd hr.2,l.way i' hr.2]
  exact⟨h1,h2.up l⟩
 ·obtain⟨h1,h2⟩:=h.prev m k
  have hr:=jP h1
  rw[l.nd hr.2]
  refine⟨h1,?_⟩
  rcases h2 with h2|h2|⟨h2,h3⟩
  ·exact .inl h2
  ·exact .inr (.inl (hP m _ hr.2 h2))
  ·refine .inr (.inr ?_)
   rw[l.nd h.hi]
   exact⟨h2,hP m _ hr.2 h3⟩
 ·exact h.stat d k
 ·rcases h.root k with h1|h1
  ·exact .inl (h1.up l)
  ·exact .inr (by rw[l.nd h.hi];exact h1)
 ·exact(h.rort k).up l
theorem Ld(i:Inv H σ)(e:Ext σ υ)(hp:gJ υ.mm.nodes υ.mm.cs υ.mm.gen)(hn:∀r:Int,σ.len<r->r<=υ.len->y5 H υ r)(hc:∀c:Int,σ.cl<c->c<=υ.cl->my υ c):Inv H υ:=by
 have l:=e.le
 refine⟨Nat.le_trans i.two l.len,by rw[l.nd (by have:=i.two;omega)];exact i.m1,by rw[l.nd (by have:=i.two;omega)];exact i.m2,Int.le_trans i.gen e.gen,hp,λ r h1 h2=>?_,λ c h1 h2=>?_⟩
 ·rcases Int.lt_or_le σ.len r with h|h
  ·exact hn r h h2
  ·exact(i.nd r h1 h).ext h e
 ·rcases Int.lt_or_le σ.cl c with h|h
  ·exact hc c h h2
  ·exact my.ext i (i.ce c h1 h) h e
def Kw.add(σ:Kw)(n:Nv)(i:Int)(w:List Nat)(g:Int)(t:CT):Kw :=
 ⟨σ.mm.push n i,λ r=>if r<=σ.len then σ.way r else w,λ r=>if r<=σ.len then σ.gb r else g,λ c=>if c<=σ.cl then σ.ct c else t⟩
theorem T8(σ:Kw)(n:Nv)(i:Int)(w:List Nat)(g:Int)(t:CT):Ext σ (σ.add n i w g t) :=
 ⟨⟨_,rfl⟩,by unfold Kw.add Mm.push fO;dsimp only;split;exact⟨_,rfl⟩;exact⟨[],by simp⟩,Int.le_refl _,λ r hr=>if_pos hr,λ r hr=>if_pos hr,λ c hc=>if_pos hc⟩
theorem Wc(σ:Kw)(n:Nv)(i:Int)(w:List Nat)(g:Int)(t:CT):(σ.add n i w g t).len=σ.len+1:=by simp[Kw.len,Kw.add,Mm.push]
theorem vz(σ:Kw)(n:Nv)(i:Int)(w:List Nat)(g:Int)(t:CT):(σ.add n i w g t).nd ((σ.len+1:Nat):Int)=dU n σ.cl:=by
 simp only[Kw.nd,Kw.add,Mm.push,cB,List.length_append,List.length_cons,List.length_nil]
 rw[if_pos ⟨by omega,by simp only[Kw.len];omega⟩]
 have e:(((σ.len+1:Nat):Int)-1).toNat=σ.mm.nodes.length:=by simp only[Kw.len];omega
 rw[e]
 simp[jJ]
theorem si(σ:Kw)(n:Nv)(i:Int)(w:List Nat)(g:Int)(t:CT):(σ.add n i w g t).way ((σ.len+1:Nat):Int)=w:=if_neg (by omega)
theorem w7(σ:Kw)(n:Nv)(i:Int)(w:List Nat)(g:Int)(t:CT):(σ.add n i w g t).gb ((σ.len+1:Nat):Int)=g:=if_neg (by omega)
theorem w8(σ:Kw)(n:Nv)(i:Int)(w:List Nat)(g:Int)(t:CT):(σ.add n i w g t).ct ((σ.cl+1:Nat):Int)=t:=if_neg (by omega)
theorem xe(σ:Kw){n:Nv}(i:Int)(w:List Nat)(g:Int)(t:CT)(h:n.kind=2∨n.kind=3∨n.kind=5∨n.kind=6∨n.kind=8):(σ.add n i w g t).cl=σ.cl+1/\(σ.add n i w g t).ce ((σ.cl+1:Nat):Int)=i:=by
 have e:(σ.add n i w g t).mm.cs=σ.mm.cs++[i]:=by simp only[Kw.add,Mm.push,fO];exact if_pos h
 refine⟨by simp[Kw.cl,e],?_⟩
 simp only[Kw.ce,e,bU,List.length_append,List.length_cons,List.length_nil]
 rw[if_pos ⟨by omega,by simp only[Kw.cl];omega⟩]
 have e2:(((σ.cl+1:Nat):Int)-1).toNat=σ.mm.cs.length:=by simp only[Kw.cl];omega
 rw[e2]
 simp[jJ]
theorem r7(σ:Kw){n:Nv}(i:Int)(w:List Nat)(g:Int)(t:CT)(h:¬(n.kind=2∨n.kind=3∨n.kind=5∨n.kind=6∨n.kind=8)):(σ.add n i w g t).cl=σ.cl:=by
 have e:(σ.add n i w g t).mm.cs=σ.mm.cs:=by simp only[Kw.add,Mm.push,fO];exact if_neg h
 simp[Kw.cl,e]
theorem s7{n:Nv}{i:Int}{g:Int}{t:CT}(h:Inv H σ)(hok:mL σ.mm.gen (σ.len+1) (dU n σ.cl).dv)(hi:Du i σ.len)(hn:y5 H (σ.add n i w g t) ((σ.len+1:Nat):Int))(hc:(σ.add n i w g t).cl=σ.cl+1->my (σ.add n i w g t) ((σ.cl+1:Nat):Int))(hcl:(σ.add n i w g t).cl<=σ.cl+1):Inv H (σ.add n i w g t):=by
 refine Ld h (T8 σ n i w g t) (gJ.push h.prop hok hi) (λ r h1 h2=>?_) (λ c h1 h2=>?_)
 ·rw[Wc] at h2
  rw[show r=((σ.len+1:Nat):Int) by omega];exact hn
 ·rw[show c=((σ.cl+1:Nat):Int) by omega];exact hc (by omega)
end
end

end Go.Proofs.YtbajmaoegmbfgaaGreat
