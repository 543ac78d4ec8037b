/- Worlds: the call of an operation. -/
import Derived.Test.YtbajmaoegmbfgaaGreatGWo1
import Derived.Test.YtbajmaoegmbfgaaGreatGAr8
import Derived.Test.YtbajmaoegmbfgaaGreatGEx18
import Derived.Test.YtbajmaoegmbfgaaGreatGTr3

set_option linter.unusedSimpArgs false
set_option linter.unusedVariables false
namespace Go.Proofs.YtbajmaoegmbfgaaGreat
section
open Go Go.RowKit Go.Ct
theorem xy{ts:List gO}{j:Nat}(h:j<ts.length):((sG ts).drop (2*j)).take 2=[.int .i64 (ts.getD j ⟨0,false⟩).root,.bool (ts.getD j ⟨0,false⟩).ro]:=by
 induction ts generalizing j with
 | nil=>simp at h
 | cons t ts ih =>
  cases j with
  | zero=>simp[sG]
  | succ j =>
   have:=ih (j:=j) (by simpa using h)
   rw[show 2*(j+1)=2*j+1+1 by omega]
   simpa[sG] using this
section
variable{P:Program}{S:List (Nat×Value)}{d:Nat}{ty t t' e:TypeId}{pos:String}{af:Array Edge}{gd:Option (Nat×Bool)}{x y:Operand}{w0 w:World}{M:List Nat}{H:List (Nat×Obj)}{A F:Fr}{O:List Ow}{a:Option Addr}
theorem F9{ts:List gO}{q:Nat}(hx:ev S x=.pointer (some ⟨cL a,eA a+2*q,none⟩))(ht:iS P t 2=true)(hf:pZ A F O a (sG ts))(hq:q<ts.length) :
  aL P S (SF w0 M H A F O) ⟨some d,.load t x,ty,pos,af,gd⟩ (.agg ⟨[.int .i64 (ts.getD q ⟨0,false⟩).root,.bool (ts.getD q ⟨0,false⟩).ro]⟩):=Hp hx ht hf (xy hq) rfl
end
structure Gq where
 key:ByteArray
 val:Int
 exp:Int
 Il:Int
 only:Bool
 t:gO
 pos:Nat
def Gq.cl(q:Gq)(kind mask:Int):Cl:=⟨kind,q.t,0,0,0,0,0,mask,q.key,q.val,q.exp,q.Il,q.only⟩
def wrK(kind:Int):Prop:=kind=8∨kind=9∨kind=12∨kind=4
structure Nq(kind:Int)(ts:List gO)(q:Gq):Prop where
 ky:q.key∈lN
 mem:q.t∈ts
 ro:wrK kind->q.t.ro=false
theorem oY{v:Nat}(h:v<8):lN.getD v ⟨#[]⟩∈lN:=by
 have:v=0∨v=1∨v=2∨v=3∨v=4∨v=5∨v=6∨v=7:=by omega
 rcases this with rfl|rfl|rfl|rfl|rfl|rfl|rfl|rfl<;>simp[lN]
theorem Aj{ts:List gO}{j:Nat}(h:j<ts.length):ts.getD j ⟨0,false⟩∈ts:=by
 rw[jH,List.getElem?_eq_getElem h];exact List.getElem_mem h
section
variable{P:Program}{S:List (Nat×Value)}{G:World->Prop}{d:Nat}{ty t t':TypeId}{pos:String}{af:Array Edge}{gd:Option (Nat×Bool)}{x y:Operand}
theorem jd{a b:Nat}(hx:ev S x=.int .i64 ((a:Nat):Int))(hy:ev S y=.int .i64 ((b:Nat):Int))(h0:b≠0):aL P S G ⟨some d,.binOp .rem t x y t',ty,pos,af,gd⟩ (.int .i64 ((a%b:Nat):Int)):=by
 have:=Zo (P:=P) (G:=G) (d:=d) (ty:=ty) (pos:=pos) (af:=af) (gd:=gd) (t:=t) (t':=t') hx hy (by omega)
 rwa [Int.tmod_eq_emod_of_nonneg (by omega),<- Int.natCast_emod] at this
end
section
variable{bw bm tb:Nat}{D:List Nat}{A:Fr}{w:World}{mask:Int}{ts:List gO}{pt pe:Option Addr}{kt ke ne:Nat}{l:List Int}{a:Option Addr}{c p:Nat}
set_option maxRecDepth 100000 in
set_option maxHeartbeats 2000000 in
theorem r4(kind:Int)(hkd:7<=kind/\kind<=12)(hl:l.length<=17592186043904)(h0:0<ts.length)(hts:ts.length<=1000)(hr0:(ts.getD 0 ⟨0,false⟩).ro=false)
  (hs:SF w D [(tb,Bd a l c p),(bw,mB bm mask pt ts.length kt pe ne ke)] [(a,aG l)] [] [⟨pt,sG ts,kt,29,2⟩] w) :
  Calls Tryz.prog 54 #[.pointer (some ⟨bw,0,none⟩),.int .i64 kind,.pointer (some ⟨tb,0,none⟩)] w λ e w'=>∃q:Gq,e=.returned (.agg ⟨Q9 (q.cl kind mask)⟩)/\Nq kind ts q /\
   SF w D [(tb,Bd a l c q.pos),(bw,mB bm mask pt ts.length kt pe ne ke)] [] [] [⟨pt,sG ts,kt,29,2⟩] w':=by
 refine enter Tryz.func54 Tryz.ntmps54 rfl rfl hs ?_
 simp only[bX]
 refine J0 ?_;refine aJ (λ x6=>?_);refine Q8 ?_
 refine eQ [7,12,13,14,15,16,17,18,19,20,21,22,23,24,25,26,27,28,29,30] (λ y:Nat×Gq=>[(7,.pointer (some ⟨y.1,0,none⟩))]) (λ y=>y.2.key∈lN) (λ y=>[(y.1,.cells ⟨Q9 (y.2.cl kind mask)⟩ 89 (0,0)),(x6,.cells ⟨Q9 ⟨0,⟨0,false⟩,0,0,0,0,0,0,⟨#[]⟩,0,0,0,false⟩⟩ 89 (0,0)),(tb,Bd a l c y.2.pos),(bw,mB bm mask pt ts.length kt pe ne ke)]) (λ _=>[]) (λ _=>[⟨pt,sG ts,kt,29,2⟩]) (by decide) (λ _=>by exact rfl) ?_ (λ y f hx=>?_)
 ·refine gE (.one 0 [] (.one 1 [] (.one 2 [] (.one 3 [] (.one 4 [] (.one 5 [] (.one 7 [] (.one 10 [] (.one 13 [] (.one 15 [] (.two 6 [4] (.two 8 [4] (.one 9 [] (.two 11 [4] (.one 12 [] (.two 14 [4] (.two 16 [4] (.one 17 [] (.one 18 [] (.one 19 [4] (.one 20 [] .nil)))) 0 [] (.two 19 [4] (.one 16 [4] (.one 17 [] (.one 18 [] (.one 20 [] .nil)))) 0 [] .nil)) 0 [] (.two 19 [4] (.one 14 [4] (.one 16 [4] (.one 17 [] (.one 18 [] (.one 20 [] .nil))))) 0 [] .nil))) 0 [] (.two 19 [4] (.one 11 [4] (.one 12 [] (.one 14 [4] (.one 16 [4] (.one 17 [] (.one 18 [] (.one 20 [] .nil))))))) 0 [] .nil))) 0 [] (.two 19 [4] (.one 8 [4] (.one 9 [] (.one 11 [4] (.one 12 [] (.one 14 [4] (.one 16 [4] (.one 17 [] (.one 18 [] (.one 20 [] .nil))))))))) 0 [] .nil)) 0 [] (.two 19 [4] (.one 6 [4] (.one 8 [4] (.one 9 [] (.one 11 [4] (.one 12 [] (.one 14 [4] (.one 16 [4] (.one 17 [] (.one 18 [] (.one 20 [] .nil)))))))))) 0 [] .nil)))))))))))) ?_
  refine X4 ?_;refine iF ?_;refine iF ?_;refine aN ?_
  refine gQ (E:=[6,19]) (by decide +kernel) ((.cons ?_ (.cons ?_ .nil)))
  ·refine mM (i:=6) (hq:=(uC (hc:=λ w1 hw=>u4 (hw.tape cQ fin hl)))) (h:=λ x18 h18=>?_)
   refine gQ (E:=[8,19]) (by decide +kernel) ((.cons ?_ (.cons ?_ .nil)))
   ·refine mM (i:=8) (hq:=(uC (hc:=λ w1 hw=>eH 6 (hw.tape cQ fin hl) (by decide) (by decide)))) (h:=λ x20 h20=>?_)
    refine nA ?_
    refine gQ (E:=[11,19]) (by decide +kernel) ((.cons ?_ (.cons ?_ .nil)))
    ·refine mM (i:=11) (hq:=(uC (hc:=λ w1 hw=>eH 6 (hw.tape cQ fin hl) (by decide) (by decide)))) (h:=λ x23 h23=>?_)
     refine nA ?_
     refine gQ (E:=[14,19]) (by decide +kernel) ((.cons ?_ (.cons ?_ .nil)))
     ·refine mM (i:=14) (hq:=(uC (hc:=λ w1 hw=>eH 4 (hw.tape cQ fin hl) (by decide) (by decide)))) (h:=λ x26 h26=>?_)
      refine gQ (E:=[16,19]) (by decide +kernel) ((.cons ?_ (.cons ?_ .nil)))
      ·refine mM (i:=16) (hq:=(uC (hc:=λ w1 hw=>eH 3 (hw.tape cQ fin hl) (by decide) (by decide)))) (h:=λ x28 h28=>?_)
       refine mL ?_;refine fU ?_;refine gV (h:=λ x7=>?_);refine zU ?_
       refine fD ((x7,⟨lN.getD x18 ⟨#[]⟩,((x20:Nat):Int),((x23:Nat):Int),((x26:Nat):Int),((x28:Nat):Int)==0,⟨0,false⟩,kD l (kD l (kD l (kD l (kD l p))))⟩)) ?_
       ·exact oY h18.1
      ·refine gW (i:=19) (h:=λ x7=>?_)
       refine aZ (i:=16) (hq:=(uC (hc:=λ w1 hw=>eH 3 (hw.tape cQ fin hl) (by decide) (by decide)))) (h:=λ x28 h28=>?_);refine mL ?_;refine fU ?_;refine zU ?_
       refine fD ((x7,⟨lN.getD x18 ⟨#[]⟩,((x20:Nat):Int),((x23:Nat):Int),((x26:Nat):Int),((x28:Nat):Int)==0,⟨0,false⟩,kD l (kD l (kD l (kD l (kD l p))))⟩)) ?_
       ·exact oY h18.1
     ·refine gW (i:=19) (h:=λ x7=>?_)
      refine aZ (i:=14) (hq:=(uC (hc:=λ w1 hw=>eH 4 (hw.tape cQ fin hl) (by decide) (by decide)))) (h:=λ x26 h26=>?_);refine aZ (i:=16) (hq:=(uC (hc:=λ w1 hw=>eH 3 (hw.tape cQ fin hl) (by decide) (by decide)))) (h:=λ x28 h28=>?_);refine mL ?_;refine fU ?_;refine zU ?_
      refine fD ((x7,⟨lN.getD x18 ⟨#[]⟩,((x20:Nat):Int),((x23:Nat):Int),((x26:Nat):Int),((x28:Nat):Int)==0,⟨0,false⟩,kD l (kD l (kD l (kD l (kD l p))))⟩)) ?_
      ·exact oY h18.1
    ·refine gW (i:=19) (h:=λ x7=>?_)
     refine aZ (i:=11) (hq:=(uC (hc:=λ w1 hw=>eH 6 (hw.tape cQ fin hl) (by decide) (by decide)))) (h:=λ x23 h23=>?_);refine nA ?_;refine aZ (i:=14) (hq:=(uC (hc:=λ w1 hw=>eH 4 (hw.tape cQ fin hl) (by decide) (by decide)))) (h:=λ x26 h26=>?_);refine aZ (i:=16) (hq:=(uC (hc:=λ w1 hw=>eH 3 (hw.tape cQ fin hl) (by decide) (by decide)))) (h:=λ x28 h28=>?_);refine mL ?_;refine fU ?_;refine zU ?_
     refine fD ((x7,⟨lN.getD x18 ⟨#[]⟩,((x20:Nat):Int),((x23:Nat):Int),((x26:Nat):Int),((x28:Nat):Int)==0,⟨0,false⟩,kD l (kD l (kD l (kD l (kD l p))))⟩)) ?_
     ·exact oY h18.1
   ·refine gW (i:=19) (h:=λ x7=>?_)
    refine aZ (i:=8) (hq:=(uC (hc:=λ w1 hw=>eH 6 (hw.tape cQ fin hl) (by decide) (by decide)))) (h:=λ x20 h20=>?_);refine nA ?_;refine aZ (i:=11) (hq:=(uC (hc:=λ w1 hw=>eH 6 (hw.tape cQ fin hl) (by decide) (by decide)))) (h:=λ x23 h23=>?_);refine nA ?_;refine aZ (i:=14) (hq:=(uC (hc:=λ w1 hw=>eH 4 (hw.tape cQ fin hl) (by decide) (by decide)))) (h:=λ x26 h26=>?_);refine aZ (i:=16) (hq:=(uC (hc:=λ w1 hw=>eH 3 (hw.tape cQ fin hl) (by decide) (by decide)))) (h:=λ x28 h28=>?_);refine mL ?_;refine fU ?_;refine zU ?_
    refine fD ((x7,⟨lN.getD x18 ⟨#[]⟩,((x20:Nat):Int),((x23:Nat):Int),((x26:Nat):Int),((x28:Nat):Int)==0,⟨0,false⟩,kD l (kD l (kD l (kD l (kD l p))))⟩)) ?_
    ·exact oY h18.1
  ·refine gW (i:=19) (h:=λ x7=>?_)
   refine aZ (i:=6) (hq:=(uC (hc:=λ w1 hw=>u4 (hw.tape cQ fin hl)))) (h:=λ x18 h18=>?_);refine aZ (i:=8) (hq:=(uC (hc:=λ w1 hw=>eH 6 (hw.tape cQ fin hl) (by decide) (by decide)))) (h:=λ x20 h20=>?_);refine nA ?_;refine aZ (i:=11) (hq:=(uC (hc:=λ w1 hw=>eH 6 (hw.tape cQ fin hl) (by decide) (by decide)))) (h:=λ x23 h23=>?_);refine nA ?_;refine aZ (i:=14) (hq:=(uC (hc:=λ w1 hw=>eH 4 (hw.tape cQ fin hl) (by decide) (by decide)))) (h:=λ x26 h26=>?_);refine aZ (i:=16) (hq:=(uC (hc:=λ w1 hw=>eH 3 (hw.tape cQ fin hl) (by decide) (by decide)))) (h:=λ x28 h28=>?_);refine mL ?_;refine fU ?_;refine zU ?_
   refine fD ((x7,⟨lN.getD x18 ⟨#[]⟩,((x20:Nat):Int),((x23:Nat):Int),((x26:Nat):Int),((x28:Nat):Int)==0,⟨0,false⟩,kD l (kD l (kD l (kD l (kD l p))))⟩)) ?_
   ·exact oY h18.1
 dsimp only[gX,List.map,List.cons_append,List.nil_append]
 have hy:=hx
 refine J2 ?_;refine mC ?_;refine aA ?_
 (refine eD 33 (λ g33=>?_) (λ g33=>?_)<;>(try (exfalso;omega))<;>((refine aF ?_;refine aA ?_)))
 ((refine aF ?_;refine mC ?_));refine cE ?_;refine J1 ?_;refine J2 ?_;refine mC ?_;refine aA ?_
 (refine eD 39 (λ g39=>?_) (λ g39=>?_)<;>(first|refine aI ?_|(refine aF ?_;refine aA ?_)))
 all_goals ((first|refine aI ?_|(refine aF ?_;refine mC ?_));refine cE ?_;refine aA ?_)
 all_goals (first|refine aI ?_|(refine eD 43 (λ g43=>?_) (λ g43=>?_)<;>(first|refine aI ?_|(refine aF ?_;refine aA ?_))))
 all_goals ((first|refine aI ?_|(refine aF ?_;refine mC ?_));refine cE ?_;refine aA ?_)
 all_goals (first|refine aI ?_|(refine eD 47 (λ g47=>?_) (λ g47=>?_)<;>(first|refine aI ?_|(refine aF ?_;refine aA ?_))))
 all_goals ((first|refine aI ?_|(refine aF ?_;refine mC ?_));refine cE ?_;refine xV ?_;refine dD ?_;refine Nc ?_;refine aD (uC (hc:=λ w1 hw=>eH ts.length (hw.tape cQ fin hl) (by omega) (by omega))) (λ x57 h57=>?_);refine iE ?_;refine C4 ?_)
 all_goals
 refine nD [11,58,59,60,61,62,63,64,65,66,67,68,69,70,71,72,73,74,75,76,77,78,79,80,81,82,83,84,85,86,87,88,89,90,91,92,93,94,95,96,97,98,99,100] (λ z:Nat×gO=>[(11,.int .i64 ((z.1:Nat):Int))]) (λ z=>z.1<=ts.length) (λ z=>[(y.1,.cells ⟨Q9 (({y.2 with t:=z.2}:Gq).cl kind mask)⟩ 89 (0,0)),(x6,.cells ⟨Q9 ⟨0,⟨0,false⟩,0,0,0,0,0,0,⟨#[]⟩,0,0,0,false⟩⟩ 89 (0,0)),(tb,Bd a l c (kD l y.2.pos)),(bw,mB bm mask pt ts.length kt pe ne ke)]) (λ _=>_) (λ _=>_) (λ z=>ts.length-z.1) ((0,y.2.t)) (Nat.zero_le _) (λ z f hx=>?_)
 dsimp only[gX,List.map,List.cons_append,List.nil_append]
 all_goals (refine De ?_;refine dD ?_;refine Nc ?_;refine xJ ?_)
 all_goals
  refine bB (λ c64=>?_) (λ c64=>?_)
  ·all_goals try (exfalso;omega)
   all_goals (refine qA ?_;refine aV ?_;refine gL [0,1,2,3,4,5,6,7,8,9,10,11,12,13,14,15,16] ?_;refine Zb ?_;refine iF ?_;refine bZ (i:=6) (hq:=(oH (m:=x57) (n:=z.1) rf rf (by omega))) (h:=?_);refine Zb ?_;refine oD ?_;refine bZ (i:=12) (hq:=(jd (a:=x57+z.1) (b:=ts.length) rf rf (by omega))) (h:=?_);refine bQ (i:=13) (hq:=(wA (cs:=sG ts) (k:=(x57+z.1)%ts.length) rf rf fT eC fin (Nat.mod_lt _ h0) (by rw[lD];have:=Nat.mod_lt (x57+z.1) h0;omega))) (h:=?_);refine bQ (i:=14) (hq:=(F9 (ts:=ts) (q:=(x57+z.1)%ts.length) rf eC fin (Nat.mod_lt _ h0))) (h:=?_);refine aR ?_;refine kB (i:=16) (hq:=(iZ λ _=>lJ (off:=1) (vs:=[.int .i64 (ts.getD ((x57+z.1)%ts.length) ⟨0,false⟩).root,.bool (ts.getD ((x57+z.1)%ts.length) ⟨0,false⟩).ro]) rf cQ rf rfl eC (Nat.le_of_ble_eq_true rfl) rf kM)) (h:=λ _=>?_);refine dY ?_;refine J0 ?_;refine aE ?_;refine J3 ?_;refine aA ?_)
   all_goals ((refine eD 86 (λ g86=>?_) (λ g86=>?_)<;>(first|refine aI ?_|(refine aF ?_;refine aA ?_))))
   all_goals ((first|refine aI ?_|(refine aF ?_;refine yL ?_));refine cE ?_;refine aA ?_)
   all_goals (first|(refine aF ?_;refine aE ?_)|(refine eD 90 (λ g90=>?_) (λ g90=>?_)<;>(try (exfalso;omega))<;>(refine aI ?_)))
   all_goals ((first|refine aI ?_|(refine aF ?_;refine aE ?_));(first|refine aI ?_|(refine aF ?_;refine bP ?_));(first|refine aI ?_|(refine aF ?_;refine yL ?_));(first|refine aI ?_|(refine aF ?_;refine aA ?_)))
   all_goals (first|refine zX ?_|(refine eD 95 (λ g95=>?_) (λ g95=>?_)<;>(first|refine aI ?_|(refine aF ?_;refine aA ?_))))
   all_goals ((first|refine aI ?_|refine zX ?_|(refine aF ?_;refine yL ?_));(first|refine aI ?_|(refine aF ?_;refine cE ?_));refine cE ?_;refine aH ?_)
   all_goals
   refine bB (λ c99=>?_) (λ c99=>?_)
   ·try exact nv c99
    all_goals (refine nK ?_;refine J5 ?_)
    all_goals
     refine bC Tryz.results54 (λ w hw=>?_)
     exact⟨{y.2 with t:=ts.getD ((x57+z.1)%ts.length) ⟨0,false⟩,pos:=kD l y.2.pos},rfl,⟨hy,Aj (Nat.mod_lt _ h0),λ hk=>by first|(simp_all;done)|(unfold wrK at hk;exfalso;omega)⟩,hw.aU⟩
   ·try exact nv c99
    all_goals try (exfalso;omega)
    all_goals (refine nN ?_;refine uF ?_)
    all_goals
     refine iN ((z.1+1,ts.getD ((x57+z.1)%ts.length) ⟨0,false⟩)) ?_
     ·omega
  ·all_goals try (exfalso;omega)
   all_goals (refine bM rfl ?_;refine lP ?_;refine aC (wA (cs:=sG ts) (k:=0) rf rf fT eC fin h0 (by rw[lD];omega)) rfl ?_;refine aC (F9 (ts:=ts) (q:=0) rf eC fin h0) rfl ?_;refine aE ?_;refine cP (iZ λ _=>lJ (off:=1) (vs:=[.int .i64 (ts.getD 0 ⟨0,false⟩).root,.bool (ts.getD 0 ⟨0,false⟩).ro]) rf cQ rf rfl eC (Nat.le_of_ble_eq_true rfl) rf kM) (λ _=>?_);refine aH ?_;refine nK ?_;refine J5 ?_)
   all_goals
   refine bC Tryz.results54 (λ w hw=>?_)
   exact⟨{y.2 with t:=ts.getD 0 ⟨0,false⟩,pos:=kD l y.2.pos},rfl,⟨hy,Aj h0,λ _=>hr0⟩,hw.aU⟩
end
end

/- Tries of worlds: a cell is set; nodes and cells are added. -/
section
open Go.Ct
section
variable{H:ByteArray->Nat}{σ τ υ:Kw}{r:Int}{w:List Nat}
theorem nJ{cs:List Int}{c o v:Int}(h:jZ cs c o)(c':Int):bU (eT cs c o v) c'=if c'=c then v else bU cs c':=by
 have hl:=iC (cs:=cs) (c:=c) (bK:=o) (new:=v)
 obtain⟨h1,h2,h3⟩:=h
 have e:eT cs c o v=cs.set (c-1).toNat v:=if_pos ⟨h1,h2,h3⟩
 unfold bU
 rw[hl]
 by_cases hc:1<=c'/\c'<=cs.length
 ·rw[if_pos hc,if_pos hc,e]
  by_cases e2:c'=c
  ·subst e2
   rw[if_pos rfl]
   rw[jH,List.getElem?_set,if_pos rfl,if_pos (by omega)]
   rfl
  ·rw[if_neg e2]
   rw[jH,List.getElem?_set,if_neg (by omega),jH]
 ·rw[if_neg hc,if_neg hc,if_neg (by omega)]
theorem As{cs:List Int}{c o:Int}(h:jZ cs c o):bU cs c=o:=by
 obtain⟨h1,h2,h3⟩:=h
 unfold bU
 rw[if_pos ⟨h1,h2⟩,h3]
theorem wS.in(h:wS σ r w):1<=r/\r<=σ.len:=eM (by rw[h.1];decide)
theorem qD.in{g:Int}(h:qD σ r w g):1<=r/\r<=σ.len:=jJ h.1
theorem Inv.pE(i:Inv H σ){m:Int}(h:cB (σ.nd m)):1<=(σ.nd m).prev/\(σ.nd m).prev<=σ.cl/\σ.ct (σ.nd m).prev=.prev m:=by
 have hr:=jJ h
 have hn:=i.nd m hr.1 hr.2
 have hb:=hn.bd.prev
 rcases h with h|h|h
 ·have:=hn.k3 h;exact⟨this.2.2.2.1,hb,this.2.2.2.2⟩
 ·have:=hn.k5 h;exact⟨this.2.2.2.2.1,hb,this.2.2.2.2.2⟩
 ·have:=hn.k6 h;exact⟨this.2.2.2.1,hb,this.2.2.2.2⟩
theorem Inv.Ba(i:Inv H σ){r:Int}(h:(σ.nd r).kind=2):1<=(σ.nd r).main/\(σ.nd r).main<=σ.cl/\σ.ct (σ.nd r).main=.main r:=by
 have hr:=eM (N:=σ.mm.nodes) (i:=r) (by rw[h];decide)
 have hn:=i.nd r hr.1 hr.2
 exact⟨(hn.k2 h).2.1,hn.bd.main,(hn.k2 h).2.2⟩
theorem wS.up(h:wS σ r w)(l:Le σ τ):wS τ r w:=by
 have hr:=h.in
 exact⟨by rw[l.nd hr.2];exact h.1,by rw[l.way r hr.2];exact h.2⟩
theorem qD.up{g:Int}(h:qD σ r w g)(l:Le σ τ):qD τ r w g:=by
 have hr:=h.in
 exact⟨by rw[l.nd hr.2];exact h.1,by rw[l.way r hr.2];exact h.2.1,by rw[l.gb r hr.2];exact h.2.2⟩
theorem qD.le{g g':Int}(h:qD σ r w g)(hg:g<=g'):qD σ r w g':=⟨h.1,h.2.1,Int.le_trans h.2.2 hg⟩
theorem dV.up(i:Inv H σ)(hm:cB (σ.nd r))(h:dV σ r)(l:Le σ τ):dV τ r:=by
 have hc:=i.pE hm
 unfold dV
 rw[l.nd (jJ hm).2,l.done _ r hc.1 hc.2.1 hc.2.2 (by rw[h];exact kH (.inl (xQ _)))]
 exact h
theorem mu.same{c:Int}(h:mu σ c)(hm:υ.mm.nodes=σ.mm.nodes)(hw:υ.way=σ.way)(hg:υ.gb=σ.gb)(hct:υ.ct=σ.ct)(hc:υ.ce c=σ.ce c)(hs:∀p,cB (σ.nd p)->dV σ p->dV υ p):mu υ c:=by
 have hl:υ.len=σ.len:=by simp only[Kw.len,hm]
 have hn:∀r,υ.nd r=σ.nd r:=λ r=>by simp only[Kw.nd,hm]
 have hM:∀p w g,qD σ p w g->qD υ p w g:=λ p w g h=>⟨by rw[hn];exact h.1,by rw[hw];exact h.2.1,by rw[hg];exact h.2.2⟩
 have hP:∀m p,pB σ m p->pB υ m p:=λ m p h=>⟨by rw[hw,hg];exact hM _ _ _ h.1,hs p h.1.1 h.2⟩
 refine⟨by rw[hc];exact h.lo,by rw[hc,hl];exact h.hi,λ i e=>?_,λ m e=>?_,λ d e=>?_,λ e=>?_,λ e=>?_⟩
 ·rw[hc,hw,hn]
  obtain⟨h0,h1⟩:=h.main i (by rw[<- hct];exact e)
  exact⟨h0,hM _ _ _ h1⟩
 ·rw[hc,hn,hn]
  obtain⟨h0,h⟩:=h.prev m (by rw[<- hct];exact e)
  refine⟨h0,?_⟩
  rcases h with h1|h1|⟨h1,h2⟩
  ·exact .inl h1
  ·exact .inr (.inl (hP _ _ h1))
  ·exact .inr (.inr ⟨h1,hP _ _ h2⟩)
 ·rw[hc];exact h.stat d (by rw[<- hct];exact e)
 ·rw[hc,hn]
  rcases h.root (by rw[<- hct];exact e) with h1|h1
  ·exact .inl ⟨by rw[hn];exact h1.1,by rw[hw];exact h1.2⟩
  ·exact .inr h1
 ·rw[hc]
  have h1:=h.rort (by rw[<- hct];exact e)
  exact⟨by rw[hn];exact h1.1,by rw[hw];exact h1.2⟩
theorem gD.kO{N:List Nv}{cs:List Int}{gen c o v:Int}(h:gD N cs gen)(lo:0<=v)(hi:v<=N.length):gD N (eT cs c o v) gen:=by
 unfold eT
 split
 ·refine⟨h.two,h.gen0,h.m0,h.m1,λ i hi'=>?_,h.nodes,by rw[List.length_set];exact h.marks⟩
  rw[List.length_set] at hi'
  rw[jH,List.getElem?_set]
  split
  ·rw[if_pos (by omega)]
   exact⟨lo,by rw[List.length_map];exact hi⟩
  ·rw[<- jH]
   exact h.cells i hi'
 ·exact h
structure Wu(σ:Kw)(c o v:Int):Prop where
 lo:0<=v
 hi:v<=σ.len
 main:∀i,σ.ct c=.main i->qD σ v (σ.way i) (σ.nd i).gen
 prev:∀m,σ.ct c=.prev m->cB (σ.nd o)/\(v=0∨((σ.nd v).kind=7/\(σ.nd v).bK=o))
 stat:∀d,σ.ct c=.stat d->v=0∨v=1∨v=2
 root:σ.ct c=.root->wS σ v []∨(σ.nd v).kind=8
 rort:σ.ct c=.rort->wS σ v []
theorem y7{c o v:Int}(i:Inv H σ)(hk:jZ σ.mm.cs c o)(hs:Wu σ c o v):∃υ,Le σ υ/\Inv H υ/\υ.mm=⟨σ.mm.nodes,eT σ.mm.cs c o v,σ.mm.gen⟩/\υ.ce c=v:=by
 refine⟨⟨⟨σ.mm.nodes,eT σ.mm.cs c o v,σ.mm.gen⟩,σ.way,σ.gb,σ.ct⟩,?_,?_,rfl,by show bU (eT _ _ _ _) c=v;rw[nJ hk,if_pos rfl]⟩
 ·refine⟨⟨[],by simp⟩,by simp only[Kw.cl,iC];exact Nat.le_refl _,Int.le_refl _,λ _ _=>rfl,λ _ _=>rfl,λ _ _=>rfl,λ c' m h1 hc e hm=>?_,λ c' m h1 hc e hm=>?_⟩
  ·show bU (eT _ _ _ _) c'=_
   rw[nJ hk]
   split
   ·rename_i e2
    subst e2
    exact absurd (by rw[show σ.ce c'=o from As hk];exact(hs.prev m e).1) hm
   ·rfl
  ·show bU (eT _ _ _ _) c'=_∨bU (eT _ _ _ _) c'=_∨_
   rw[nJ hk]
   split
   ·rename_i e2
    subst e2
    have e3:σ.ce c'=o:=As hk
    rcases(hs.prev m e).2 with h|h
    ·exact .inr (.inl h)
    ·refine .inr (.inr ?_)
     show(cG σ.mm.nodes (bU (eT _ _ _ _) c')).kind=7/\(cG σ.mm.nodes (bU (eT _ _ _ _) c')).bK=_
     rw[nJ hk,if_pos rfl,e3]
     exact h
   ·exact .inl rfl
 ·have hcl:(eT σ.mm.cs c o v).length=σ.cl:=iC
  refine⟨i.two,i.m1,i.m2,i.gen,gD.kO i.prop hs.lo hs.hi,λ r h1 h2=>?_,λ c' h1 h2=>?_⟩
  ·have h:=i.nd r h1 h2
   exact⟨h.valid,h.gen,by simp only[Kw.cl,hcl];exact h.bd,h.k2,h.k3,h.k4,h.k5,h.k6,h.k7,h.k8⟩
  ·simp only[Kw.cl,hcl] at h2
   have hset:∀p,cB (σ.nd p)->dV σ p->bU (eT σ.mm.cs c o v) (σ.nd p).prev=0:=λ p hm hp=>by
    rw[nJ hk]
    split
    ·rename_i e
     have hc:=(i.pE hm).2.2
     rw[e] at hc
     have h0:σ.ce (σ.nd p).prev=0:=hp
     rw[e,show σ.ce c=o from As hk] at h0
     have:=(hs.prev p hc).1
     rw[h0] at this
     exact absurd this (kH (.inl (xQ _)))
    ·exact hp
   by_cases e:c'=c
   ·subst e
    have e2:bU (eT σ.mm.cs c' o v) c'=v:=by rw[nJ hk,if_pos rfl]
    have e3:σ.ce c'=o:=As hk
    refine⟨by simp only[Kw.ce,e2];exact hs.lo,by simp only[Kw.ce,e2];exact hs.hi,λ i' h=>?_,λ m h=>?_,λ d h=>?_,λ h=>?_,λ h=>?_⟩
    ·simp only[Kw.ce,e2];exact⟨((i.ce c' h1 h2).main i' h).1,hs.main i' h⟩
    ·simp only[Kw.ce,e2]
     have hp:=hs.prev m h
     have hold:pB σ m o:=by
      rcases((i.ce c' h1 h2).prev m h).2 with h3|h3|h3
      ·rw[e3] at h3;rw[h3] at hp;exact absurd hp.1 (kH (.inl (xQ _)))
      ·rwa [e3] at h3
      ·rw[e3] at h3;exact absurd hp.1 (kH (.inr (.inl h3.1)))
     refine⟨((i.ce c' h1 h2).prev m h).1,?_⟩
     rcases hp.2 with h3|⟨h3,h4⟩
     ·exact .inl h3
     ·refine .inr (.inr ⟨h3,?_⟩)
      show pB _ m (σ.nd v).bK
      rw[h4]
      exact⟨hold.1,hset _ hp.1 hold.2⟩
    ·simp only[Kw.ce,e2];exact hs.stat d h
    ·simp only[Kw.ce,e2];exact hs.root h
    ·simp only[Kw.ce,e2];exact hs.rort h
   ·exact(i.ce c' h1 h2).same rfl rfl rfl rfl (by show bU (eT _ _ _ _) c'=_;rw[nJ hk,if_neg e]) hset
structure Ext(σ υ:Kw):Prop where
 nodes:∃N,υ.mm.nodes=σ.mm.nodes++N
 cs:∃C,υ.mm.cs=σ.mm.cs++C
 gen:σ.mm.gen<=υ.mm.gen
 way:∀r:Int,r<=σ.len->υ.way r=σ.way r
 gb:∀r:Int,r<=σ.len->υ.gb r=σ.gb r
 ct:∀c:Int,c<=σ.cl->υ.ct c=σ.ct c
theorem Xf{cs C:List Int}{c:Int}(h:c<=cs.length):bU (cs++C) c=bU cs c:=by
 unfold bU
 by_cases h1:1<=c
 ·rw[if_pos ⟨h1,by simp;omega⟩,if_pos ⟨h1,h⟩,jH,jH,List.getElem?_append_left (by omega)]
 ·rw[if_neg (by omega),if_neg (by omega)]
theorem Ext.ce(e:Ext σ υ){c:Int}(h:c<=σ.cl):υ.ce c=σ.ce c:=by obtain⟨C,h2⟩:=e.cs;simp only[Kw.ce,h2];exact Xf h
theorem Ext.cl(e:Ext σ υ):σ.cl<=υ.cl:=by obtain⟨C,h2⟩:=e.cs;simp only[Kw.cl,h2,List.length_append];omega
theorem Ext.le(e:Ext σ υ):Le σ υ:=⟨e.nodes,e.cl,e.gen,e.way,e.gb,e.ct,λ _ _ _ h _ _=>e.ce h,λ _ _ _ h _ _=>.inl (e.ce h)⟩
theorem Lr.up{g b:Int}(h:Lr σ w g b)(l:Le σ υ):Lr υ w g b:=by
 rcases h with h|h
 ·have hr:=eM (N:=σ.mm.nodes) (i:=b) (by rw[h.1];decide)
  exact .inl (by rw[l.nd hr.2];exact h)
 ·have hr:=eM (N:=σ.mm.nodes) (i:=b) (by rw[h.1];decide)
  exact .inr (by rw[l.nd hr.2,l.way b hr.2];exact h)
theorem xv.ext(h:xv H σ r)(hr:r<=σ.len)(e:Ext σ υ):xv H υ r:=by
 have l:=e.le
 have hn:=l.nd hr
 have hw:=l.way r hr
 have hk:∀b,(σ.nd b).kind=2->(υ.nd b).kind=2:=λ b hb=>by rw[l.nd (eM (N:=σ.mm.nodes) (i:=b) (by rw[hb];decide)).2];exact hb
 refine⟨by rw[hn];exact h.valid,by rw[hn];have:=h.gen;have:=e.gen;omega,by rw[hn];exact h.bd.mono l.len l.cl,λ k=>?_,λ k=>?_,λ k=>?_,λ k=>?_,λ k=>?_,λ k=>?_,λ k=>?_⟩<;>rw[hn] at k ⊢
 ·obtain⟨h1,h2,h3⟩:=h.k2 k
  exact⟨by rw[hw];exact h1,h2,by rw[l.ct _ h.bd.main];exact h3⟩
 ·obtain⟨h1,h2,h3,h4,h5⟩:=h.k3 k
  rw[hw]
  refine⟨h1,λ k' b hb=>by rw[l.gb r hr];exact(h2 k' b hb).up l,λ h0=>⟨(h3 h0).1,λ b hb=>hk b ((h3 h0).2 b hb)⟩,h4,by rw[l.ct _ h.bd.prev];exact h5⟩
 ·exact h.k4 k
 ·rw[hw,l.ct _ h.bd.prev];exact h.k5 k
 ·rw[hw,l.ct _ h.bd.prev];exact h.k6 k
 ·have:=h.k7 k
  rw[l.nd (jJ this).2];exact this
 ·obtain⟨h1,h2,h3,h4⟩:=h.k8 k
  exact⟨h1.up l,h2.up l,h3,by rw[l.ct _ h.bd.status];exact h4⟩
theorem mu.ext{c:Int}(i:Inv H σ)(h:mu σ c)(hc:c<=σ.cl)(e:Ext σ υ):mu υ c:=by
 have l:=e.le
 have hv:=e.ce hc
 have hP:∀m p:Int,m<=σ.len->pB σ m p->pB υ m p:=λ m p hm hp=>⟨by rw[l.way m hm,l.gb m hm];exact hp.1.up l,dV.up i hp.1.1 hp.2 l⟩
 refine⟨by rw[hv];exact h.lo,by rw[hv];have:=h.hi;have:=l.len;omega,λ i' k=>?_,λ m k=>?_,λ d k=>?_,λ k=>?_,λ k=>?_⟩<;>rw[l.ct c hc] at k<;>rw[hv]
 ·obtain⟨h1,h2⟩:=h.main i' k
  have hr:=eM (N:=σ.mm.nodes) (i:=i') (by rw[h1];decide)
  rw[l.nd hr.2,l.way i' hr.2]
  exact⟨h1,h2.up l⟩
 ·obtain⟨h1,h2⟩:=h.prev m k
  have hr:=jJ h1
  rw[l.nd hr.2]
  refine⟨h1,?_⟩
  rcases h2 with h2|h2|⟨h2,h3⟩
  ·exact .inl h2
  ·exact .inr (.inl (hP m _ hr.2 h2))
  ·refine .inr (.inr ?_)
   rw[l.nd h.hi]
   exact⟨h2,hP m _ hr.2 h3⟩
 ·exact h.stat d k
 ·rcases h.root k with h1|h1
  ·exact .inl (h1.up l)
  ·exact .inr (by rw[l.nd h.hi];exact h1)
 ·exact(h.rort k).up l
theorem Lf(i:Inv H σ)(e:Ext σ υ)(hp:gD υ.mm.nodes υ.mm.cs υ.mm.gen)(hn:∀r:Int,σ.len<r->r<=υ.len->xv H υ r)(hc:∀c:Int,σ.cl<c->c<=υ.cl->mu υ c):Inv H υ:=by
 have l:=e.le
 refine⟨Nat.le_trans i.two l.len,by rw[l.nd (by have:=i.two;omega)];exact i.m1,by rw[l.nd (by have:=i.two;omega)];exact i.m2,Int.le_trans i.gen e.gen,hp,λ r h1 h2=>?_,λ c h1 h2=>?_⟩
 ·rcases Int.lt_or_le σ.len r with h|h
  ·exact hn r h h2
  ·exact(i.nd r h1 h).ext h e
 ·rcases Int.lt_or_le σ.cl c with h|h
  ·exact hc c h h2
  ·exact mu.ext i (i.ce c h1 h) h e
def Kw.add(σ:Kw)(n:Nv)(i:Int)(w:List Nat)(g:Int)(t:CT):Kw :=
 ⟨σ.mm.push n i,λ r=>if r<=σ.len then σ.way r else w,λ r=>if r<=σ.len then σ.gb r else g,λ c=>if c<=σ.cl then σ.ct c else t⟩
theorem Wq(σ:Kw)(n:Nv)(i:Int)(w:List Nat)(g:Int)(t:CT):Ext σ (σ.add n i w g t) :=
 ⟨⟨_,rfl⟩,by unfold Kw.add Mm.push gJ;dsimp only;split;exact⟨_,rfl⟩;exact⟨[],by simp⟩,Int.le_refl _,λ r hr=>if_pos hr,λ r hr=>if_pos hr,λ c hc=>if_pos hc⟩
theorem U4(σ:Kw)(n:Nv)(i:Int)(w:List Nat)(g:Int)(t:CT):(σ.add n i w g t).len=σ.len+1:=by simp[Kw.len,Kw.add,Mm.push]
theorem z8(σ:Kw)(n:Nv)(i:Int)(w:List Nat)(g:Int)(t:CT):(σ.add n i w g t).nd ((σ.len+1:Nat):Int)=dW n σ.cl:=by
 simp only[Kw.nd,Kw.add,Mm.push,cG,List.length_append,List.length_cons,List.length_nil]
 rw[if_pos ⟨by omega,by simp only[Kw.len];omega⟩]
 have e:(((σ.len+1:Nat):Int)-1).toNat=σ.mm.nodes.length:=by simp only[Kw.len];omega
 rw[e]
 simp[jH]
theorem px(σ:Kw)(n:Nv)(i:Int)(w:List Nat)(g:Int)(t:CT):(σ.add n i w g t).way ((σ.len+1:Nat):Int)=w:=if_neg (by omega)
theorem zy(σ:Kw)(n:Nv)(i:Int)(w:List Nat)(g:Int)(t:CT):(σ.add n i w g t).gb ((σ.len+1:Nat):Int)=g:=if_neg (by omega)
theorem yg(σ:Kw)(n:Nv)(i:Int)(w:List Nat)(g:Int)(t:CT):(σ.add n i w g t).ct ((σ.cl+1:Nat):Int)=t:=if_neg (by omega)
theorem w4(σ:Kw){n:Nv}(i:Int)(w:List Nat)(g:Int)(t:CT)(h:n.kind=2∨n.kind=3∨n.kind=5∨n.kind=6∨n.kind=8):(σ.add n i w g t).cl=σ.cl+1/\(σ.add n i w g t).ce ((σ.cl+1:Nat):Int)=i:=by
 have e:(σ.add n i w g t).mm.cs=σ.mm.cs++[i]:=by simp only[Kw.add,Mm.push,gJ];exact if_pos h
 refine⟨by simp[Kw.cl,e],?_⟩
 simp only[Kw.ce,e,bU,List.length_append,List.length_cons,List.length_nil]
 rw[if_pos ⟨by omega,by simp only[Kw.cl];omega⟩]
 have e2:(((σ.cl+1:Nat):Int)-1).toNat=σ.mm.cs.length:=by simp only[Kw.cl];omega
 rw[e2]
 simp[jH]
theorem ob(σ:Kw){n:Nv}(i:Int)(w:List Nat)(g:Int)(t:CT)(h:¬(n.kind=2∨n.kind=3∨n.kind=5∨n.kind=6∨n.kind=8)):(σ.add n i w g t).cl=σ.cl:=by
 have e:(σ.add n i w g t).mm.cs=σ.mm.cs:=by simp only[Kw.add,Mm.push,gJ];exact if_neg h
 simp[Kw.cl,e]
theorem ny{n:Nv}{i:Int}{g:Int}{t:CT}(h:Inv H σ)(hok:mN σ.mm.gen (σ.len+1) (dW n σ.cl).dv)(hi:Dw i σ.len)(hn:xv H (σ.add n i w g t) ((σ.len+1:Nat):Int))(hc:(σ.add n i w g t).cl=σ.cl+1->mu (σ.add n i w g t) ((σ.cl+1:Nat):Int))(hcl:(σ.add n i w g t).cl<=σ.cl+1):Inv H (σ.add n i w g t):=by
 refine Lf h (Wq σ n i w g t) (gD.push h.prop hok hi) (λ r h1 h2=>?_) (λ c h1 h2=>?_)
 ·rw[U4] at h2
  rw[show r=((σ.len+1:Nat):Int) by omega];exact hn
 ·rw[show c=((σ.cl+1:Nat):Int) by omega];exact hc (by omega)
end
end

end Go.Proofs.YtbajmaoegmbfgaaGreat
