/- Worlds: the call of an operation. -/
import Derived.Test.YtbajmaoegmbfgaaGreatGWo1
import Derived.Test.YtbajmaoegmbfgaaGreatGAr8
import Derived.Test.YtbajmaoegmbfgaaGreatGEx18
import Derived.Test.YtbajmaoegmbfgaaGreatGTr3

set_option linter.unusedSimpArgs false
set_option linter.unusedVariables false
namespace Go.Proofs.YtbajmaoegmbfgaaGreat
section
open Go Go.RowKit Go.Ct
theorem xn{ts:List gK}{j:Nat}(h:j<ts.length):((tH ts).drop (2*j)).take 2=[.int .i64 (ts.getD j ⟨0,false⟩).root,.bool (ts.getD j ⟨0,false⟩).ro]:=by
 induction ts generalizing j with
 | nil=>simp at h
 | cons t ts ih =>
  cases j with
  | zero=>simp[tH]
  | succ j =>
   have:=ih (j:=j) (by simpa using h)
   rw[show 2*(j+1)=2*j+1+1 by omega]
   simpa[tH] using this
section
variable{P:Program}{S:List (Nat×Value)}{d:Nat}{ty t t' e:TypeId}{pos:String}{af:Array Edge}{gd:Option (Nat×Bool)}{x y:Operand}{w0 w:World}{M:List Nat}{H:List (Nat×Obj)}{A F:Fr}{O:List Ow}{a:Option Addr}
theorem G9{ts:List gK}{q:Nat}(hx:ev S x=.pointer (some ⟨cK a,dZ a+2*q,none⟩))(ht:iS P t 2=true)(hf:qD A F O a (tH ts))(hq:q<ts.length) :
  aM P S (SF w0 M H A F O) ⟨some d,.load t x,ty,pos,af,gd⟩ (.agg ⟨[.int .i64 (ts.getD q ⟨0,false⟩).root,.bool (ts.getD q ⟨0,false⟩).ro]⟩):=F7 hx ht hf (xn hq) rfl
end
structure Fq where
 key:ByteArray
 val:Int
 exp:Int
 I5:Int
 only:Bool
 t:gK
 pos:Nat
def Fq.cl(q:Fq)(kind mask:Int):Cl:=⟨kind,q.t,0,0,0,0,0,mask,q.key,q.val,q.exp,q.I5,q.only⟩
def wrK(kind:Int):Prop:=kind=8∨kind=9∨kind=12∨kind=4
structure Ri(kind:Int)(ts:List gK)(q:Fq):Prop where
 ky:q.key∈lU
 mem:q.t∈ts
 ro:wrK kind->q.t.ro=false
theorem oZ{v:Nat}(h:v<8):lU.getD v ⟨#[]⟩∈lU:=by
 have:v=0∨v=1∨v=2∨v=3∨v=4∨v=5∨v=6∨v=7:=by omega
 rcases this with rfl|rfl|rfl|rfl|rfl|rfl|rfl|rfl<;>simp[lU]
theorem Bb{ts:List gK}{j:Nat}(h:j<ts.length):ts.getD j ⟨0,false⟩∈ts:=by
 rw[jH,List.getElem?_eq_getElem h];exact List.getElem_mem h
section
variable{P:Program}{S:List (Nat×Value)}{G:World->Prop}{d:Nat}{ty t t':TypeId}{pos:String}{af:Array Edge}{gd:Option (Nat×Bool)}{x y:Operand}
theorem gm{a b:Nat}(hx:ev S x=.int .i64 ((a:Nat):Int))(hy:ev S y=.int .i64 ((b:Nat):Int))(h0:b≠0):aM P S G ⟨some d,.binOp .rem t x y t',ty,pos,af,gd⟩ (.int .i64 ((a%b:Nat):Int)):=by
 have:=ie (P:=P) (G:=G) (d:=d) (ty:=ty) (pos:=pos) (af:=af) (gd:=gd) (t:=t) (t':=t') hx hy (by omega)
 rwa [Int.tmod_eq_emod_of_nonneg (by omega),<- Int.natCast_emod] at this
end
section
variable{bw bm tb:Nat}{D:List Nat}{A:Fr}{w:World}{mask:Int}{ts:List gK}{pt pe:Option Addr}{kt ke ne:Nat}{l:List Int}{a:Option Addr}{c p:Nat}
set_option maxRecDepth 100000 in
set_option maxHeartbeats 2000000 in
theorem r5(kind:Int)(hkd:7<=kind/\kind<=12)(hl:l.length<=17592186043904)(h0:0<ts.length)(hts:ts.length<=1000)(hr0:(ts.getD 0 ⟨0,false⟩).ro=false)
  (hs:SF w D [(tb,Bj a l c p),(bw,kD bm mask pt ts.length kt pe ne ke)] [(a,aG l)] [] [⟨pt,tH ts,kt,29,2⟩] w) :
  Calls Tryz.prog 54 #[.pointer (some ⟨bw,0,none⟩),.int .i64 kind,.pointer (some ⟨tb,0,none⟩)] w λ e w'=>∃q:Fq,e=.returned (.agg ⟨Rr (q.cl kind mask)⟩)/\Ri kind ts q /\
   SF w D [(tb,Bj a l c q.pos),(bw,kD bm mask pt ts.length kt pe ne ke)] [] [] [⟨pt,tH ts,kt,29,2⟩] w':=by
 refine enter Tryz.func54 Tryz.ntmps54 rfl rfl hs ?_
 simp only[bX]
 refine J0 ?_;refine aJ (λ x6=>?_);refine Rt ?_
 refine eA [7,12,13,14,15,16,17,18,19,20,21,22,23,24,25,26,27,28,29,30] (λ y:Nat×Fq=>[(7,.pointer (some ⟨y.1,0,none⟩))]) (λ y=>y.2.key∈lU) (λ y=>[(y.1,.cells ⟨Rr (y.2.cl kind mask)⟩ 89 (0,0)),(x6,.cells ⟨Rr ⟨0,⟨0,false⟩,0,0,0,0,0,0,⟨#[]⟩,0,0,0,false⟩⟩ 89 (0,0)),(tb,Bj a l c y.2.pos),(bw,kD bm mask pt ts.length kt pe ne ke)]) (λ _=>[]) (λ _=>[⟨pt,tH ts,kt,29,2⟩]) (by decide) (λ _=>by exact rfl) ?_ (λ y f hx=>?_)
 ·refine fP (.one 0 [] (.one 1 [] (.one 2 [] (.one 3 [] (.one 4 [] (.one 5 [] (.one 7 [] (.one 10 [] (.one 13 [] (.one 15 [] (.two 6 [4] (.two 8 [4] (.one 9 [] (.two 11 [4] (.one 12 [] (.two 14 [4] (.two 16 [4] (.one 17 [] (.one 18 [] (.one 19 [4] (.one 20 [] .nil)))) 0 [] (.two 19 [4] (.one 16 [4] (.one 17 [] (.one 18 [] (.one 20 [] .nil)))) 0 [] .nil)) 0 [] (.two 19 [4] (.one 14 [4] (.one 16 [4] (.one 17 [] (.one 18 [] (.one 20 [] .nil))))) 0 [] .nil))) 0 [] (.two 19 [4] (.one 11 [4] (.one 12 [] (.one 14 [4] (.one 16 [4] (.one 17 [] (.one 18 [] (.one 20 [] .nil))))))) 0 [] .nil))) 0 [] (.two 19 [4] (.one 8 [4] (.one 9 [] (.one 11 [4] (.one 12 [] (.one 14 [4] (.one 16 [4] (.one 17 [] (.one 18 [] (.one 20 [] .nil))))))))) 0 [] .nil)) 0 [] (.two 19 [4] (.one 6 [4] (.one 8 [4] (.one 9 [] (.one 11 [4] (.one 12 [] (.one 14 [4] (.one 16 [4] (.one 17 [] (.one 18 [] (.one 20 [] .nil)))))))))) 0 [] .nil)))))))))))) ?_
  refine Y0 ?_;refine iH ?_;refine iH ?_;refine aN ?_
  refine fV (E:=[6,19]) (by decide +kernel) ((.cons ?_ (.cons ?_ .nil)))
  ·refine jS (i:=6) (hq:=(uS (hc:=λ w1 hw=>vg (hw.tape cQ fin hl)))) (h:=λ x18 h18=>?_)
   refine fV (E:=[8,19]) (by decide +kernel) ((.cons ?_ (.cons ?_ .nil)))
   ·refine jS (i:=8) (hq:=(uS (hc:=λ w1 hw=>eL 6 (hw.tape cQ fin hl) (by decide) (by decide)))) (h:=λ x20 h20=>?_)
    refine nC ?_
    refine fV (E:=[11,19]) (by decide +kernel) ((.cons ?_ (.cons ?_ .nil)))
    ·refine jS (i:=11) (hq:=(uS (hc:=λ w1 hw=>eL 6 (hw.tape cQ fin hl) (by decide) (by decide)))) (h:=λ x23 h23=>?_)
     refine nC ?_
     refine fV (E:=[14,19]) (by decide +kernel) ((.cons ?_ (.cons ?_ .nil)))
     ·refine jS (i:=14) (hq:=(uS (hc:=λ w1 hw=>eL 4 (hw.tape cQ fin hl) (by decide) (by decide)))) (h:=λ x26 h26=>?_)
      refine fV (E:=[16,19]) (by decide +kernel) ((.cons ?_ (.cons ?_ .nil)))
      ·refine jS (i:=16) (hq:=(uS (hc:=λ w1 hw=>eL 3 (hw.tape cQ fin hl) (by decide) (by decide)))) (h:=λ x28 h28=>?_)
       refine mJ ?_;refine fA ?_;refine gA (h:=λ x7=>?_);refine vZ ?_
       refine eQ ((x7,⟨lU.getD x18 ⟨#[]⟩,((x20:Nat):Int),((x23:Nat):Int),((x26:Nat):Int),((x28:Nat):Int)==0,⟨0,false⟩,kH l (kH l (kH l (kH l (kH l p))))⟩)) ?_
       ·exact oZ h18.1
      ·refine fO (i:=19) (h:=λ x7=>?_)
       refine aZ (i:=16) (hq:=(uS (hc:=λ w1 hw=>eL 3 (hw.tape cQ fin hl) (by decide) (by decide)))) (h:=λ x28 h28=>?_);refine mJ ?_;refine fA ?_;refine vZ ?_
       refine eQ ((x7,⟨lU.getD x18 ⟨#[]⟩,((x20:Nat):Int),((x23:Nat):Int),((x26:Nat):Int),((x28:Nat):Int)==0,⟨0,false⟩,kH l (kH l (kH l (kH l (kH l p))))⟩)) ?_
       ·exact oZ h18.1
     ·refine fO (i:=19) (h:=λ x7=>?_)
      refine aZ (i:=14) (hq:=(uS (hc:=λ w1 hw=>eL 4 (hw.tape cQ fin hl) (by decide) (by decide)))) (h:=λ x26 h26=>?_);refine aZ (i:=16) (hq:=(uS (hc:=λ w1 hw=>eL 3 (hw.tape cQ fin hl) (by decide) (by decide)))) (h:=λ x28 h28=>?_);refine mJ ?_;refine fA ?_;refine vZ ?_
      refine eQ ((x7,⟨lU.getD x18 ⟨#[]⟩,((x20:Nat):Int),((x23:Nat):Int),((x26:Nat):Int),((x28:Nat):Int)==0,⟨0,false⟩,kH l (kH l (kH l (kH l (kH l p))))⟩)) ?_
      ·exact oZ h18.1
    ·refine fO (i:=19) (h:=λ x7=>?_)
     refine aZ (i:=11) (hq:=(uS (hc:=λ w1 hw=>eL 6 (hw.tape cQ fin hl) (by decide) (by decide)))) (h:=λ x23 h23=>?_);refine nC ?_;refine aZ (i:=14) (hq:=(uS (hc:=λ w1 hw=>eL 4 (hw.tape cQ fin hl) (by decide) (by decide)))) (h:=λ x26 h26=>?_);refine aZ (i:=16) (hq:=(uS (hc:=λ w1 hw=>eL 3 (hw.tape cQ fin hl) (by decide) (by decide)))) (h:=λ x28 h28=>?_);refine mJ ?_;refine fA ?_;refine vZ ?_
     refine eQ ((x7,⟨lU.getD x18 ⟨#[]⟩,((x20:Nat):Int),((x23:Nat):Int),((x26:Nat):Int),((x28:Nat):Int)==0,⟨0,false⟩,kH l (kH l (kH l (kH l (kH l p))))⟩)) ?_
     ·exact oZ h18.1
   ·refine fO (i:=19) (h:=λ x7=>?_)
    refine aZ (i:=8) (hq:=(uS (hc:=λ w1 hw=>eL 6 (hw.tape cQ fin hl) (by decide) (by decide)))) (h:=λ x20 h20=>?_);refine nC ?_;refine aZ (i:=11) (hq:=(uS (hc:=λ w1 hw=>eL 6 (hw.tape cQ fin hl) (by decide) (by decide)))) (h:=λ x23 h23=>?_);refine nC ?_;refine aZ (i:=14) (hq:=(uS (hc:=λ w1 hw=>eL 4 (hw.tape cQ fin hl) (by decide) (by decide)))) (h:=λ x26 h26=>?_);refine aZ (i:=16) (hq:=(uS (hc:=λ w1 hw=>eL 3 (hw.tape cQ fin hl) (by decide) (by decide)))) (h:=λ x28 h28=>?_);refine mJ ?_;refine fA ?_;refine vZ ?_
    refine eQ ((x7,⟨lU.getD x18 ⟨#[]⟩,((x20:Nat):Int),((x23:Nat):Int),((x26:Nat):Int),((x28:Nat):Int)==0,⟨0,false⟩,kH l (kH l (kH l (kH l (kH l p))))⟩)) ?_
    ·exact oZ h18.1
  ·refine fO (i:=19) (h:=λ x7=>?_)
   refine aZ (i:=6) (hq:=(uS (hc:=λ w1 hw=>vg (hw.tape cQ fin hl)))) (h:=λ x18 h18=>?_);refine aZ (i:=8) (hq:=(uS (hc:=λ w1 hw=>eL 6 (hw.tape cQ fin hl) (by decide) (by decide)))) (h:=λ x20 h20=>?_);refine nC ?_;refine aZ (i:=11) (hq:=(uS (hc:=λ w1 hw=>eL 6 (hw.tape cQ fin hl) (by decide) (by decide)))) (h:=λ x23 h23=>?_);refine nC ?_;refine aZ (i:=14) (hq:=(uS (hc:=λ w1 hw=>eL 4 (hw.tape cQ fin hl) (by decide) (by decide)))) (h:=λ x26 h26=>?_);refine aZ (i:=16) (hq:=(uS (hc:=λ w1 hw=>eL 3 (hw.tape cQ fin hl) (by decide) (by decide)))) (h:=λ x28 h28=>?_);refine mJ ?_;refine fA ?_;refine vZ ?_
   refine eQ ((x7,⟨lU.getD x18 ⟨#[]⟩,((x20:Nat):Int),((x23:Nat):Int),((x26:Nat):Int),((x28:Nat):Int)==0,⟨0,false⟩,kH l (kH l (kH l (kH l (kH l p))))⟩)) ?_
   ·exact oZ h18.1
 dsimp only[gU,List.map,List.cons_append,List.nil_append]
 have hy:=hx
 refine J2 ?_;refine mE ?_;refine aA ?_
 (refine eE 33 (λ g33=>?_) (λ g33=>?_)<;>(try (exfalso;omega))<;>((refine aF ?_;refine aA ?_)))
 ((refine aF ?_;refine mE ?_));refine cB ?_;refine J1 ?_;refine J2 ?_;refine mE ?_;refine aA ?_
 (refine eE 39 (λ g39=>?_) (λ g39=>?_)<;>(first|refine aI ?_|(refine aF ?_;refine aA ?_)))
 all_goals ((first|refine aI ?_|(refine aF ?_;refine mE ?_));refine cB ?_;refine aA ?_)
 all_goals (first|refine aI ?_|(refine eE 43 (λ g43=>?_) (λ g43=>?_)<;>(first|refine aI ?_|(refine aF ?_;refine aA ?_))))
 all_goals ((first|refine aI ?_|(refine aF ?_;refine mE ?_));refine cB ?_;refine aA ?_)
 all_goals (first|refine aI ?_|(refine eE 47 (λ g47=>?_) (λ g47=>?_)<;>(first|refine aI ?_|(refine aF ?_;refine aA ?_))))
 all_goals ((first|refine aI ?_|(refine aF ?_;refine mE ?_));refine cB ?_;refine yE ?_;refine dE ?_;refine Nw ?_;refine aD (uS (hc:=λ w1 hw=>eL ts.length (hw.tape cQ fin hl) (by omega) (by omega))) (λ x57 h57=>?_);refine iB ?_;refine Du ?_)
 all_goals
 refine mZ [11,58,59,60,61,62,63,64,65,66,67,68,69,70,71,72,73,74,75,76,77,78,79,80,81,82,83,84,85,86,87,88,89,90,91,92,93,94,95,96,97,98,99,100] (λ z:Nat×gK=>[(11,.int .i64 ((z.1:Nat):Int))]) (λ z=>z.1<=ts.length) (λ z=>[(y.1,.cells ⟨Rr (({y.2 with t:=z.2}:Fq).cl kind mask)⟩ 89 (0,0)),(x6,.cells ⟨Rr ⟨0,⟨0,false⟩,0,0,0,0,0,0,⟨#[]⟩,0,0,0,false⟩⟩ 89 (0,0)),(tb,Bj a l c (kH l y.2.pos)),(bw,kD bm mask pt ts.length kt pe ne ke)]) (λ _=>_) (λ _=>_) (λ z=>ts.length-z.1) ((0,y.2.t)) (Nat.zero_le _) (λ z f hx=>?_)
 dsimp only[gU,List.map,List.cons_append,List.nil_append]
 all_goals (refine Ds ?_;refine dE ?_;refine Nw ?_;refine xA ?_)
 all_goals
  refine bB (λ c64=>?_) (λ c64=>?_)
  ·all_goals try (exfalso;omega)
   all_goals (refine qE ?_;refine aV ?_;refine gJ [0,1,2,3,4,5,6,7,8,9,10,11,12,13,14,15,16] ?_;refine R7 ?_;refine iH ?_;refine cA (i:=6) (hq:=(oI (m:=x57) (n:=z.1) rf rf (by omega))) (h:=?_);refine R7 ?_;refine oC ?_;refine cA (i:=12) (hq:=(gm (a:=x57+z.1) (b:=ts.length) rf rf (by omega))) (h:=?_);refine bQ (i:=13) (hq:=(vK (cs:=tH ts) (k:=(x57+z.1)%ts.length) rf rf fZ eD fin (Nat.mod_lt _ h0) (by rw[lG];have:=Nat.mod_lt (x57+z.1) h0;omega))) (h:=?_);refine bQ (i:=14) (hq:=(G9 (ts:=ts) (q:=(x57+z.1)%ts.length) rf eD fin (Nat.mod_lt _ h0))) (h:=?_);refine aR ?_;refine kN (i:=16) (hq:=(jA λ _=>lR (off:=1) (vs:=[.int .i64 (ts.getD ((x57+z.1)%ts.length) ⟨0,false⟩).root,.bool (ts.getD ((x57+z.1)%ts.length) ⟨0,false⟩).ro]) rf cQ rf rfl eD (Nat.le_of_ble_eq_true rfl) rf kO)) (h:=λ _=>?_);refine dY ?_;refine J0 ?_;refine aE ?_;refine J3 ?_;refine aA ?_)
   all_goals ((refine eE 86 (λ g86=>?_) (λ g86=>?_)<;>(first|refine aI ?_|(refine aF ?_;refine aA ?_))))
   all_goals ((first|refine aI ?_|(refine aF ?_;refine yK ?_));refine cB ?_;refine aA ?_)
   all_goals (first|(refine aF ?_;refine aE ?_)|(refine eE 90 (λ g90=>?_) (λ g90=>?_)<;>(try (exfalso;omega))<;>(refine aI ?_)))
   all_goals ((first|refine aI ?_|(refine aF ?_;refine aE ?_));(first|refine aI ?_|(refine aF ?_;refine bL ?_));(first|refine aI ?_|(refine aF ?_;refine yK ?_));(first|refine aI ?_|(refine aF ?_;refine aA ?_)))
   all_goals (first|refine Ae ?_|(refine eE 95 (λ g95=>?_) (λ g95=>?_)<;>(first|refine aI ?_|(refine aF ?_;refine aA ?_))))
   all_goals ((first|refine aI ?_|refine Ae ?_|(refine aF ?_;refine yK ?_));(first|refine aI ?_|(refine aF ?_;refine cB ?_));refine cB ?_;refine aH ?_)
   all_goals
   refine bB (λ c99=>?_) (λ c99=>?_)
   ·try exact nv c99
    all_goals (refine nQ ?_;refine J5 ?_)
    all_goals
     refine bC Tryz.results54 (λ w hw=>?_)
     exact⟨{y.2 with t:=ts.getD ((x57+z.1)%ts.length) ⟨0,false⟩,pos:=kH l y.2.pos},rfl,⟨hy,Bb (Nat.mod_lt _ h0),λ hk=>by first|(simp_all;done)|(unfold wrK at hk;exfalso;omega)⟩,hw.aU⟩
   ·try exact nv c99
    all_goals try (exfalso;omega)
    all_goals (refine nZ ?_;refine uN ?_)
    all_goals
     refine iP ((z.1+1,ts.getD ((x57+z.1)%ts.length) ⟨0,false⟩)) ?_
     ·omega
  ·all_goals try (exfalso;omega)
   all_goals (refine bN rfl ?_;refine lW ?_;refine aC (vK (cs:=tH ts) (k:=0) rf rf fZ eD fin h0 (by rw[lG];omega)) rfl ?_;refine aC (G9 (ts:=ts) (q:=0) rf eD fin h0) rfl ?_;refine aE ?_;refine cP (jA λ _=>lR (off:=1) (vs:=[.int .i64 (ts.getD 0 ⟨0,false⟩).root,.bool (ts.getD 0 ⟨0,false⟩).ro]) rf cQ rf rfl eD (Nat.le_of_ble_eq_true rfl) rf kO) (λ _=>?_);refine aH ?_;refine nQ ?_;refine J5 ?_)
   all_goals
   refine bC Tryz.results54 (λ w hw=>?_)
   exact⟨{y.2 with t:=ts.getD 0 ⟨0,false⟩,pos:=kH l y.2.pos},rfl,⟨hy,Bb h0,λ _=>hr0⟩,hw.aU⟩
end
end

/- Tries of worlds: a cell is set; nodes and cells are added. -/
section
open Go.Ct
section
variable{H:ByteArray->Nat}{σ τ υ:Kw}{r:Int}{w:List Nat}
theorem nG{cs:List Int}{c o v:Int}(h:kF cs c o)(c':Int):bU (eU cs c o v) c'=if c'=c then v else bU cs c':=by
 have hl:=iC (cs:=cs) (c:=c) (bK:=o) (new:=v)
 obtain⟨h1,h2,h3⟩:=h
 have e:eU cs c o v=cs.set (c-1).toNat v:=if_pos ⟨h1,h2,h3⟩
 unfold bU
 rw[hl]
 by_cases hc:1<=c'/\c'<=cs.length
 ·rw[if_pos hc,if_pos hc,e]
  by_cases e2:c'=c
  ·subst e2
   rw[if_pos rfl]
   rw[jH,List.getElem?_set,if_pos rfl,if_pos (by omega)]
   rfl
  ·rw[if_neg e2]
   rw[jH,List.getElem?_set,if_neg (by omega),jH]
 ·rw[if_neg hc,if_neg hc,if_neg (by omega)]
theorem Ah{cs:List Int}{c o:Int}(h:kF cs c o):bU cs c=o:=by
 obtain⟨h1,h2,h3⟩:=h
 unfold bU
 rw[if_pos ⟨h1,h2⟩,h3]
theorem xZ.in(h:xZ σ r w):1<=r/\r<=σ.len:=eI (by rw[h.1];decide)
theorem qJ.in{g:Int}(h:qJ σ r w g):1<=r/\r<=σ.len:=jM h.1
theorem Inv.pW(i:Inv H σ){m:Int}(h:bZ (σ.nd m)):1<=(σ.nd m).prev/\(σ.nd m).prev<=σ.cl/\σ.ct (σ.nd m).prev=.prev m:=by
 have hr:=jM h
 have hn:=i.nd m hr.1 hr.2
 have hb:=hn.bd.prev
 rcases h with h|h|h
 ·have:=hn.k3 h;exact⟨this.2.2.2.1,hb,this.2.2.2.2⟩
 ·have:=hn.k5 h;exact⟨this.2.2.2.2.1,hb,this.2.2.2.2.2⟩
 ·have:=hn.k6 h;exact⟨this.2.2.2.1,hb,this.2.2.2.2⟩
theorem Inv.A9(i:Inv H σ){r:Int}(h:(σ.nd r).kind=2):1<=(σ.nd r).main/\(σ.nd r).main<=σ.cl/\σ.ct (σ.nd r).main=.main r:=by
 have hr:=eI (N:=σ.mm.nodes) (i:=r) (by rw[h];decide)
 have hn:=i.nd r hr.1 hr.2
 exact⟨(hn.k2 h).2.1,hn.bd.main,(hn.k2 h).2.2⟩
theorem xZ.up(h:xZ σ r w)(l:Le σ τ):xZ τ r w:=by
 have hr:=h.in
 exact⟨by rw[l.nd hr.2];exact h.1,by rw[l.way r hr.2];exact h.2⟩
theorem qJ.up{g:Int}(h:qJ σ r w g)(l:Le σ τ):qJ τ r w g:=by
 have hr:=h.in
 exact⟨by rw[l.nd hr.2];exact h.1,by rw[l.way r hr.2];exact h.2.1,by rw[l.gb r hr.2];exact h.2.2⟩
theorem qJ.le{g g':Int}(h:qJ σ r w g)(hg:g<=g'):qJ σ r w g':=⟨h.1,h.2.1,Int.le_trans h.2.2 hg⟩
theorem dV.up(i:Inv H σ)(hm:bZ (σ.nd r))(h:dV σ r)(l:Le σ τ):dV τ r:=by
 have hc:=i.pW hm
 unfold dV
 rw[l.nd (jM hm).2,l.done _ r hc.1 hc.2.1 hc.2.2 (by rw[h];exact kK (.inl (xG _)))]
 exact h
theorem n0.same{c:Int}(h:n0 σ c)(hm:υ.mm.nodes=σ.mm.nodes)(hw:υ.way=σ.way)(hg:υ.gb=σ.gb)(hct:υ.ct=σ.ct)(hc:υ.ce c=σ.ce c)(hs:∀p,bZ (σ.nd p)->dV σ p->dV υ p):n0 υ c:=by
 have hl:υ.len=σ.len:=by simp only[Kw.len,hm]
 have hn:∀r,υ.nd r=σ.nd r:=λ r=>by simp only[Kw.nd,hm]
 have hM:∀p w g,qJ σ p w g->qJ υ p w g:=λ p w g h=>⟨by rw[hn];exact h.1,by rw[hw];exact h.2.1,by rw[hg];exact h.2.2⟩
 have hP:∀m p,pU σ m p->pU υ m p:=λ m p h=>⟨by rw[hw,hg];exact hM _ _ _ h.1,hs p h.1.1 h.2⟩
 refine⟨by rw[hc];exact h.lo,by rw[hc,hl];exact h.hi,λ i e=>?_,λ m e=>?_,λ d e=>?_,λ e=>?_,λ e=>?_⟩
 ·rw[hc,hw,hn]
  obtain⟨h0,h1⟩:=h.main i (by rw[<- hct];exact e)
  exact⟨h0,hM _ _ _ h1⟩
 ·rw[hc,hn,hn]
  obtain⟨h0,h⟩:=h.prev m (by rw[<- hct];exact e)
  refine⟨h0,?_⟩
  rcases h with h1|h1|⟨h1,h2⟩
  ·exact .inl h1
  ·exact .inr (.inl (hP _ _ h1))
  ·exact .inr (.inr ⟨h1,hP _ _ h2⟩)
 ·rw[hc];exact h.stat d (by rw[<- hct];exact e)
 ·rw[hc,hn]
  rcases h.root (by rw[<- hct];exact e) with h1|h1
  ·exact .inl ⟨by rw[hn];exact h1.1,by rw[hw];exact h1.2⟩
  ·exact .inr h1
 ·rw[hc]
  have h1:=h.rort (by rw[<- hct];exact e)
  exact⟨by rw[hn];exact h1.1,by rw[hw];exact h1.2⟩
theorem gL.kY{N:List Nv}{cs:List Int}{gen c o v:Int}(h:gL N cs gen)(lo:0<=v)(hi:v<=N.length):gL N (eU cs c o v) gen:=by
 unfold eU
 split
 ·refine⟨h.two,h.gen0,h.m0,h.m1,λ i hi'=>?_,h.nodes,by rw[List.length_set];exact h.marks⟩
  rw[List.length_set] at hi'
  rw[jH,List.getElem?_set]
  split
  ·rw[if_pos (by omega)]
   exact⟨lo,by rw[List.length_map];exact hi⟩
  ·rw[<- jH]
   exact h.cells i hi'
 ·exact h
structure V6(σ:Kw)(c o v:Int):Prop where
 lo:0<=v
 hi:v<=σ.len
 main:∀i,σ.ct c=.main i->qJ σ v (σ.way i) (σ.nd i).gen
 prev:∀m,σ.ct c=.prev m->bZ (σ.nd o)/\(v=0∨((σ.nd v).kind=7/\(σ.nd v).bK=o))
 stat:∀d,σ.ct c=.stat d->v=0∨v=1∨v=2
 root:σ.ct c=.root->xZ σ v []∨(σ.nd v).kind=8
 rort:σ.ct c=.rort->xZ σ v []
theorem y0{c o v:Int}(i:Inv H σ)(hk:kF σ.mm.cs c o)(hs:V6 σ c o v):∃υ,Le σ υ/\Inv H υ/\υ.mm=⟨σ.mm.nodes,eU σ.mm.cs c o v,σ.mm.gen⟩/\υ.ce c=v:=by
 refine⟨⟨⟨σ.mm.nodes,eU σ.mm.cs c o v,σ.mm.gen⟩,σ.way,σ.gb,σ.ct⟩,?_,?_,rfl,by show bU (eU _ _ _ _) c=v;rw[nG hk,if_pos rfl]⟩
 ·refine⟨⟨[],by simp⟩,by simp only[Kw.cl,iC];exact Nat.le_refl _,Int.le_refl _,λ _ _=>rfl,λ _ _=>rfl,λ _ _=>rfl,λ c' m h1 hc e hm=>?_,λ c' m h1 hc e hm=>?_⟩
  ·show bU (eU _ _ _ _) c'=_
   rw[nG hk]
   split
   ·rename_i e2
    subst e2
    exact absurd (by rw[show σ.ce c'=o from Ah hk];exact(hs.prev m e).1) hm
   ·rfl
  ·show bU (eU _ _ _ _) c'=_∨bU (eU _ _ _ _) c'=_∨_
   rw[nG hk]
   split
   ·rename_i e2
    subst e2
    have e3:σ.ce c'=o:=Ah hk
    rcases(hs.prev m e).2 with h|h
    ·exact .inr (.inl h)
    ·refine .inr (.inr ?_)
     show(cD σ.mm.nodes (bU (eU _ _ _ _) c')).kind=7/\(cD σ.mm.nodes (bU (eU _ _ _ _) c')).bK=_
     rw[nG hk,if_pos rfl,e3]
     exact h
   ·exact .inl rfl
 ·have hcl:(eU σ.mm.cs c o v).length=σ.cl:=iC
  refine⟨i.two,i.m1,i.m2,i.gen,gL.kY i.prop hs.lo hs.hi,λ r h1 h2=>?_,λ c' h1 h2=>?_⟩
  ·have h:=i.nd r h1 h2
   exact⟨h.valid,h.gen,by simp only[Kw.cl,hcl];exact h.bd,h.k2,h.k3,h.k4,h.k5,h.k6,h.k7,h.k8⟩
  ·simp only[Kw.cl,hcl] at h2
   have hset:∀p,bZ (σ.nd p)->dV σ p->bU (eU σ.mm.cs c o v) (σ.nd p).prev=0:=λ p hm hp=>by
    rw[nG hk]
    split
    ·rename_i e
     have hc:=(i.pW hm).2.2
     rw[e] at hc
     have h0:σ.ce (σ.nd p).prev=0:=hp
     rw[e,show σ.ce c=o from Ah hk] at h0
     have:=(hs.prev p hc).1
     rw[h0] at this
     exact absurd this (kK (.inl (xG _)))
    ·exact hp
   by_cases e:c'=c
   ·subst e
    have e2:bU (eU σ.mm.cs c' o v) c'=v:=by rw[nG hk,if_pos rfl]
    have e3:σ.ce c'=o:=Ah hk
    refine⟨by simp only[Kw.ce,e2];exact hs.lo,by simp only[Kw.ce,e2];exact hs.hi,λ i' h=>?_,λ m h=>?_,λ d h=>?_,λ h=>?_,λ h=>?_⟩
    ·simp only[Kw.ce,e2];exact⟨((i.ce c' h1 h2).main i' h).1,hs.main i' h⟩
    ·simp only[Kw.ce,e2]
     have hp:=hs.prev m h
     have hold:pU σ m o:=by
      rcases((i.ce c' h1 h2).prev m h).2 with h3|h3|h3
      ·rw[e3] at h3;rw[h3] at hp;exact absurd hp.1 (kK (.inl (xG _)))
      ·rwa [e3] at h3
      ·rw[e3] at h3;exact absurd hp.1 (kK (.inr (.inl h3.1)))
     refine⟨((i.ce c' h1 h2).prev m h).1,?_⟩
     rcases hp.2 with h3|⟨h3,h4⟩
     ·exact .inl h3
     ·refine .inr (.inr ⟨h3,?_⟩)
      show pU _ m (σ.nd v).bK
      rw[h4]
      exact⟨hold.1,hset _ hp.1 hold.2⟩
    ·simp only[Kw.ce,e2];exact hs.stat d h
    ·simp only[Kw.ce,e2];exact hs.root h
    ·simp only[Kw.ce,e2];exact hs.rort h
   ·exact(i.ce c' h1 h2).same rfl rfl rfl rfl (by show bU (eU _ _ _ _) c'=_;rw[nG hk,if_neg e]) hset
structure Ext(σ υ:Kw):Prop where
 nodes:∃N,υ.mm.nodes=σ.mm.nodes++N
 cs:∃C,υ.mm.cs=σ.mm.cs++C
 gen:σ.mm.gen<=υ.mm.gen
 way:∀r:Int,r<=σ.len->υ.way r=σ.way r
 gb:∀r:Int,r<=σ.len->υ.gb r=σ.gb r
 ct:∀c:Int,c<=σ.cl->υ.ct c=σ.ct c
theorem Xi{cs C:List Int}{c:Int}(h:c<=cs.length):bU (cs++C) c=bU cs c:=by
 unfold bU
 by_cases h1:1<=c
 ·rw[if_pos ⟨h1,by simp;omega⟩,if_pos ⟨h1,h⟩,jH,jH,List.getElem?_append_left (by omega)]
 ·rw[if_neg (by omega),if_neg (by omega)]
theorem Ext.ce(e:Ext σ υ){c:Int}(h:c<=σ.cl):υ.ce c=σ.ce c:=by obtain⟨C,h2⟩:=e.cs;simp only[Kw.ce,h2];exact Xi h
theorem Ext.cl(e:Ext σ υ):σ.cl<=υ.cl:=by obtain⟨C,h2⟩:=e.cs;simp only[Kw.cl,h2,List.length_append];omega
theorem Ext.le(e:Ext σ υ):Le σ υ:=⟨e.nodes,e.cl,e.gen,e.way,e.gb,e.ct,λ _ _ _ h _ _=>e.ce h,λ _ _ _ h _ _=>.inl (e.ce h)⟩
theorem Mt.up{g b:Int}(h:Mt σ w g b)(l:Le σ υ):Mt υ w g b:=by
 rcases h with h|h
 ·have hr:=eI (N:=σ.mm.nodes) (i:=b) (by rw[h.1];decide)
  exact .inl (by rw[l.nd hr.2];exact h)
 ·have hr:=eI (N:=σ.mm.nodes) (i:=b) (by rw[h.1];decide)
  exact .inr (by rw[l.nd hr.2,l.way b hr.2];exact h)
theorem w5.ext(h:w5 H σ r)(hr:r<=σ.len)(e:Ext σ υ):w5 H υ r:=by
 have l:=e.le
 have hn:=l.nd hr
 have hw:=l.way r hr
 have hk:∀b,(σ.nd b).kind=2->(υ.nd b).kind=2:=λ b hb=>by rw[l.nd (eI (N:=σ.mm.nodes) (i:=b) (by rw[hb];decide)).2];exact hb
 refine⟨by rw[hn];exact h.valid,by rw[hn];have:=h.gen;have:=e.gen;omega,by rw[hn];exact h.bd.mono l.len l.cl,λ k=>?_,λ k=>?_,λ k=>?_,λ k=>?_,λ k=>?_,λ k=>?_,λ k=>?_⟩<;>rw[hn] at k ⊢
 ·obtain⟨h1,h2,h3⟩:=h.k2 k
  exact⟨by rw[hw];exact h1,h2,by rw[l.ct _ h.bd.main];exact h3⟩
 ·obtain⟨h1,h2,h3,h4,h5⟩:=h.k3 k
  rw[hw]
  refine⟨h1,λ k' b hb=>by rw[l.gb r hr];exact(h2 k' b hb).up l,λ h0=>⟨(h3 h0).1,λ b hb=>hk b ((h3 h0).2 b hb)⟩,h4,by rw[l.ct _ h.bd.prev];exact h5⟩
 ·exact h.k4 k
 ·rw[hw,l.ct _ h.bd.prev];exact h.k5 k
 ·rw[hw,l.ct _ h.bd.prev];exact h.k6 k
 ·have:=h.k7 k
  rw[l.nd (jM this).2];exact this
 ·obtain⟨h1,h2,h3,h4⟩:=h.k8 k
  exact⟨h1.up l,h2.up l,h3,by rw[l.ct _ h.bd.status];exact h4⟩
theorem n0.ext{c:Int}(i:Inv H σ)(h:n0 σ c)(hc:c<=σ.cl)(e:Ext σ υ):n0 υ c:=by
 have l:=e.le
 have hv:=e.ce hc
 have hP:∀m p:Int,m<=σ.len->pU σ m p->pU υ m p:=λ m p hm hp=>⟨by rw[l.way m hm,l.gb m hm];exact hp.1.up l,dV.up i hp.1.1 hp.2 l⟩
 refine⟨by rw[hv];exact h.lo,by rw[hv];have:=h.hi;have:=l.len;omega,λ i' k=>?_,λ m k=>?_,λ d k=>?_,λ k=>?_,λ k=>?_⟩<;>rw[l.ct c hc] at k<;>rw[hv]
 ·obtain⟨h1,h2⟩:=h.main i' k
  have hr:=eI (N:=σ.mm.nodes) (i:=i') (by rw[h1];decide)
  rw[l.nd hr.2,l.way i' hr.2]
  exact⟨h1,h2.up l⟩
 ·obtain⟨h1,h2⟩:=h.prev m k
  have hr:=jM h1
  rw[l.nd hr.2]
  refine⟨h1,?_⟩
  rcases h2 with h2|h2|⟨h2,h3⟩
  ·exact .inl h2
  ·exact .inr (.inl (hP m _ hr.2 h2))
  ·refine .inr (.inr ?_)
   rw[l.nd h.hi]
   exact⟨h2,hP m _ hr.2 h3⟩
 ·exact h.stat d k
 ·rcases h.root k with h1|h1
  ·exact .inl (h1.up l)
  ·exact .inr (by rw[l.nd h.hi];exact h1)
 ·exact(h.rort k).up l
theorem Mv(i:Inv H σ)(e:Ext σ υ)(hp:gL υ.mm.nodes υ.mm.cs υ.mm.gen)(hn:∀r:Int,σ.len<r->r<=υ.len->w5 H υ r)(hc:∀c:Int,σ.cl<c->c<=υ.cl->n0 υ c):Inv H υ:=by
 have l:=e.le
 refine⟨Nat.le_trans i.two l.len,by rw[l.nd (by have:=i.two;omega)];exact i.m1,by rw[l.nd (by have:=i.two;omega)];exact i.m2,Int.le_trans i.gen e.gen,hp,λ r h1 h2=>?_,λ c h1 h2=>?_⟩
 ·rcases Int.lt_or_le σ.len r with h|h
  ·exact hn r h h2
  ·exact(i.nd r h1 h).ext h e
 ·rcases Int.lt_or_le σ.cl c with h|h
  ·exact hc c h h2
  ·exact n0.ext i (i.ce c h1 h) h e
def Kw.add(σ:Kw)(n:Nv)(i:Int)(w:List Nat)(g:Int)(t:CT):Kw :=
 ⟨σ.mm.push n i,λ r=>if r<=σ.len then σ.way r else w,λ r=>if r<=σ.len then σ.gb r else g,λ c=>if c<=σ.cl then σ.ct c else t⟩
theorem Ur(σ:Kw)(n:Nv)(i:Int)(w:List Nat)(g:Int)(t:CT):Ext σ (σ.add n i w g t) :=
 ⟨⟨_,rfl⟩,by unfold Kw.add Mm.push fU;dsimp only;split;exact⟨_,rfl⟩;exact⟨[],by simp⟩,Int.le_refl _,λ r hr=>if_pos hr,λ r hr=>if_pos hr,λ c hc=>if_pos hc⟩
theorem Wi(σ:Kw)(n:Nv)(i:Int)(w:List Nat)(g:Int)(t:CT):(σ.add n i w g t).len=σ.len+1:=by simp[Kw.len,Kw.add,Mm.push]
theorem z0(σ:Kw)(n:Nv)(i:Int)(w:List Nat)(g:Int)(t:CT):(σ.add n i w g t).nd ((σ.len+1:Nat):Int)=dW n σ.cl:=by
 simp only[Kw.nd,Kw.add,Mm.push,cD,List.length_append,List.length_cons,List.length_nil]
 rw[if_pos ⟨by omega,by simp only[Kw.len];omega⟩]
 have e:(((σ.len+1:Nat):Int)-1).toNat=σ.mm.nodes.length:=by simp only[Kw.len];omega
 rw[e]
 simp[jH]
theorem qs(σ:Kw)(n:Nv)(i:Int)(w:List Nat)(g:Int)(t:CT):(σ.add n i w g t).way ((σ.len+1:Nat):Int)=w:=if_neg (by omega)
theorem xc(σ:Kw)(n:Nv)(i:Int)(w:List Nat)(g:Int)(t:CT):(σ.add n i w g t).gb ((σ.len+1:Nat):Int)=g:=if_neg (by omega)
theorem yt(σ:Kw)(n:Nv)(i:Int)(w:List Nat)(g:Int)(t:CT):(σ.add n i w g t).ct ((σ.cl+1:Nat):Int)=t:=if_neg (by omega)
theorem xu(σ:Kw){n:Nv}(i:Int)(w:List Nat)(g:Int)(t:CT)(h:n.kind=2∨n.kind=3∨n.kind=5∨n.kind=6∨n.kind=8):(σ.add n i w g t).cl=σ.cl+1/\(σ.add n i w g t).ce ((σ.cl+1:Nat):Int)=i:=by
 have e:(σ.add n i w g t).mm.cs=σ.mm.cs++[i]:=by simp only[Kw.add,Mm.push,fU];exact if_pos h
 refine⟨by simp[Kw.cl,e],?_⟩
 simp only[Kw.ce,e,bU,List.length_append,List.length_cons,List.length_nil]
 rw[if_pos ⟨by omega,by simp only[Kw.cl];omega⟩]
 have e2:(((σ.cl+1:Nat):Int)-1).toNat=σ.mm.cs.length:=by simp only[Kw.cl];omega
 rw[e2]
 simp[jH]
theorem s6(σ:Kw){n:Nv}(i:Int)(w:List Nat)(g:Int)(t:CT)(h:¬(n.kind=2∨n.kind=3∨n.kind=5∨n.kind=6∨n.kind=8)):(σ.add n i w g t).cl=σ.cl:=by
 have e:(σ.add n i w g t).mm.cs=σ.mm.cs:=by simp only[Kw.add,Mm.push,fU];exact if_neg h
 simp[Kw.cl,e]
theorem pi{n:Nv}{i:Int}{g:Int}{t:CT}(h:Inv H σ)(hok:mR σ.mm.gen (σ.len+1) (dW n σ.cl).dv)(hi:Ed i σ.len)(hn:w5 H (σ.add n i w g t) ((σ.len+1:Nat):Int))(hc:(σ.add n i w g t).cl=σ.cl+1->n0 (σ.add n i w g t) ((σ.cl+1:Nat):Int))(hcl:(σ.add n i w g t).cl<=σ.cl+1):Inv H (σ.add n i w g t):=by
 refine Mv h (Ur σ n i w g t) (gL.push h.prop hok hi) (λ r h1 h2=>?_) (λ c h1 h2=>?_)
 ·rw[Wi] at h2
  rw[show r=((σ.len+1:Nat):Int) by omega];exact hn
 ·rw[show c=((σ.cl+1:Nat):Int) by omega];exact hc (by omega)
end
end

end Go.Proofs.YtbajmaoegmbfgaaGreat
