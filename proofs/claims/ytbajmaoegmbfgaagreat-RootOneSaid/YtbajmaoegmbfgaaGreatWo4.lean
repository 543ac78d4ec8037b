/- Merged. -/
import Derived.Test.YtbajmaoegmbfgaaGreatGWo2
import Derived.Test.YtbajmaoegmbfgaaGreatLf
import Derived.Test.YtbajmaoegmbfgaaGreatGEx18
set_option linter.unusedSimpArgs false
set_option linter.unusedVariables false
namespace Go.Proofs.YtbajmaoegmbfgaaGreat
open Go Go.RowKit Go.Ct
theorem za{ts:List dO}{j:Nat}(h:j<ts.length):((qP ts).drop (2*j)).take 2=[.int .i64 (ts.getD j ⟨0,false⟩).root,.bool (ts.getD j ⟨0,false⟩).ro]:=by
 induction ts generalizing j with
 | nil=>simp at h
 | cons t ts ih =>
  cases j with
  | zero=>simp[qP]
  | succ j =>
   have:=ih (j:=j) (by simpa using h)
   rw[show 2*(j+1)=2*j+1+1 by omega]
   simpa[qP] using this
section
variable{P:Program}{S:List (Nat×Value)}{d:Nat}{ty t t' e:TypeId}{pos:String}{af:Array Edge}{gd:Option (Nat×Bool)}{x y:Operand}{w0 w:World}{M:List Nat}{H:List (Nat×Obj)}{A F:Fr}{O:List Ow}{a:Option Addr}
theorem Hd{ts:List dO}{q:Nat}(hx:ev S x=.pointer (some ⟨dA a,eH a+2*q,none⟩))(ht:kQ P t 2=true)(hf:rK A F O a (qP ts))(hq:q<ts.length) :
  aK P S (SF w0 M H A F O) ⟨some d,.load t x,ty,pos,af,gd⟩ (.agg ⟨[.int .i64 (ts.getD q ⟨0,false⟩).root,.bool (ts.getD q ⟨0,false⟩).ro]⟩):=Nw hx ht hf (za hq) rfl
end
structure Gw where
 key:ByteArray
 val:Int
 exp:Int
 Il:Int
 only:Bool
 t:dO
 pos:Nat
def Gw.cl(q:Gw)(kind mask:Int):Cl:=⟨kind,q.t,0,0,0,0,0,mask,q.key,q.val,q.exp,q.Il,q.only⟩
def wrK(kind:Int):Prop:=kind=8∨kind=9∨kind=12∨kind=4
structure Qa(kind:Int)(ts:List dO)(q:Gw):Prop where
 ky:q.key∈mV
 mem:q.t∈ts
 ro:wrK kind->q.t.ro=false
theorem pI{v:Nat}(h:v<8):mV.getD v ⟨#[]⟩∈mV:=by
 have:v=0∨v=1∨v=2∨v=3∨v=4∨v=5∨v=6∨v=7:=by omega
 rcases this with rfl|rfl|rfl|rfl|rfl|rfl|rfl|rfl<;>simp[mV]
theorem Gi{ts:List dO}{j:Nat}(h:j<ts.length):ts.getD j ⟨0,false⟩∈ts:=by
 rw[jS,List.getElem?_eq_getElem h];exact List.getElem_mem h
section
variable{P:Program}{S:List (Nat×Value)}{G:World->Prop}{d:Nat}{ty t t':TypeId}{pos:String}{af:Array Edge}{gd:Option (Nat×Bool)}{x y:Operand}
theorem xz{a b:Nat}(hx:ev S x=.int .i64 ((a:Nat):Int))(hy:ev S y=.int .i64 ((b:Nat):Int))(h0:b≠0):aK P S G ⟨some d,.binOp .rem t x y t',ty,pos,af,gd⟩ (.int .i64 ((a%b:Nat):Int)):=by
 have:=ig (P:=P) (G:=G) (d:=d) (ty:=ty) (pos:=pos) (af:=af) (gd:=gd) (t:=t) (t':=t') hx hy (by omega)
 rwa [Int.tmod_eq_emod_of_nonneg (by omega),<- Int.natCast_emod] at this
end
section
variable{bw bm tb:Nat}{D:List Nat}{A:Fr}{w:World}{mask:Int}{ts:List dO}{pt pe:Option Addr}{kt ke ne:Nat}{l:List Int}{a:Option Addr}{c p:Nat}
set_option maxRecDepth 100000 in
set_option maxHeartbeats 2000000 in
theorem ua(kind:Int)(hkd:7<=kind/\kind<=12)(hl:l.length<=17592186043904)(h0:0<ts.length)(hts:ts.length<=1000)(hr0:(ts.getD 0 ⟨0,false⟩).ro=false)
  (hs:SF w D [(tb,El a l c p),(bw,lV bm mask pt ts.length kt pe ne ke)] [(a,aH l)] [] [⟨pt,qP ts,kt,29,2⟩] w) :
  Calls Tryz.prog 54 #[.pointer (some ⟨bw,0,none⟩),.int .i64 kind,.pointer (some ⟨tb,0,none⟩)] w λ e w'=>∃q:Gw,e=.returned (.agg ⟨Qv (q.cl kind mask)⟩)/\Qa kind ts q /\
   SF w D [(tb,El a l c q.pos),(bw,lV bm mask pt ts.length kt pe ne ke)] [] [] [⟨pt,qP ts,kt,29,2⟩] w':=by
 refine enter Tryz.func54 Tryz.ntmps54 rfl rfl hs ?_
 simp only[cE]
 refine J0 ?_;refine aJ (λ x6=>?_);refine S3 ?_
 refine eJ [7,12,13,14,15,16,17,18,19,20,21,22,23,24,25,26,27,28,29,30] (λ y:Nat×Gw=>[(7,.pointer (some ⟨y.1,0,none⟩))]) (λ y=>y.2.key∈mV) (λ y=>[(y.1,.cells ⟨Qv (y.2.cl kind mask)⟩ 89 (0,0)),(x6,.cells ⟨Qv ⟨0,⟨0,false⟩,0,0,0,0,0,0,⟨#[]⟩,0,0,0,false⟩⟩ 89 (0,0)),(tb,El a l c y.2.pos),(bw,lV bm mask pt ts.length kt pe ne ke)]) (λ _=>[]) (λ _=>[⟨pt,qP ts,kt,29,2⟩]) (by decide) (λ _=>by exact rfl) ?_ (λ y f hx=>?_)
 ·refine iD (.one 0 [] (.one 1 [] (.one 2 [] (.one 3 [] (.one 4 [] (.one 5 [] (.one 7 [] (.one 10 [] (.one 13 [] (.one 15 [] (.two 6 [4] (.two 8 [4] (.one 9 [] (.two 11 [4] (.one 12 [] (.two 14 [4] (.two 16 [4] (.one 17 [] (.one 18 [] (.one 19 [4] (.one 20 [] .nil)))) 0 [] (.two 19 [4] (.one 16 [4] (.one 17 [] (.one 18 [] (.one 20 [] .nil)))) 0 [] .nil)) 0 [] (.two 19 [4] (.one 14 [4] (.one 16 [4] (.one 17 [] (.one 18 [] (.one 20 [] .nil))))) 0 [] .nil))) 0 [] (.two 19 [4] (.one 11 [4] (.one 12 [] (.one 14 [4] (.one 16 [4] (.one 17 [] (.one 18 [] (.one 20 [] .nil))))))) 0 [] .nil))) 0 [] (.two 19 [4] (.one 8 [4] (.one 9 [] (.one 11 [4] (.one 12 [] (.one 14 [4] (.one 16 [4] (.one 17 [] (.one 18 [] (.one 20 [] .nil))))))))) 0 [] .nil)) 0 [] (.two 19 [4] (.one 6 [4] (.one 8 [4] (.one 9 [] (.one 11 [4] (.one 12 [] (.one 14 [4] (.one 16 [4] (.one 17 [] (.one 18 [] (.one 20 [] .nil)))))))))) 0 [] .nil)))))))))))) ?_
  refine Xo ?_;refine hU ?_;refine hU ?_;refine bC ?_
  refine iK (E:=[6,19]) (by decide +kernel) ((.cons ?_ (.cons ?_ .nil)))
  ·refine mE (i:=6) (hq:=(vC (hc:=λ w1 hw=>vq (hw.tape cR fin hl)))) (h:=λ x18 h18=>?_)
   refine iK (E:=[8,19]) (by decide +kernel) ((.cons ?_ (.cons ?_ .nil)))
   ·refine mE (i:=8) (hq:=(vC (hc:=λ w1 hw=>eM 6 (hw.tape cR fin hl) (by decide) (by decide)))) (h:=λ x20 h20=>?_)
    refine nB ?_
    refine iK (E:=[11,19]) (by decide +kernel) ((.cons ?_ (.cons ?_ .nil)))
    ·refine mE (i:=11) (hq:=(vC (hc:=λ w1 hw=>eM 6 (hw.tape cR fin hl) (by decide) (by decide)))) (h:=λ x23 h23=>?_)
     refine nB ?_
     refine iK (E:=[14,19]) (by decide +kernel) ((.cons ?_ (.cons ?_ .nil)))
     ·refine mE (i:=14) (hq:=(vC (hc:=λ w1 hw=>eM 4 (hw.tape cR fin hl) (by decide) (by decide)))) (h:=λ x26 h26=>?_)
      refine iK (E:=[16,19]) (by decide +kernel) ((.cons ?_ (.cons ?_ .nil)))
      ·refine mE (i:=16) (hq:=(vC (hc:=λ w1 hw=>eM 3 (hw.tape cR fin hl) (by decide) (by decide)))) (h:=λ x28 h28=>?_)
       refine oC ?_;refine mP ?_;refine iE (h:=λ x7=>?_);refine Bb ?_
       refine fF ((x7,⟨mV.getD x18 ⟨#[]⟩,((x20:Nat):Int),((x23:Nat):Int),((x26:Nat):Int),((x28:Nat):Int)==0,⟨0,false⟩,kY l (kY l (kY l (kY l (kY l p))))⟩)) ?_
       ·exact pI h18.1
      ·refine iC (i:=19) (h:=λ x7=>?_)
       refine bG (i:=16) (hq:=(vC (hc:=λ w1 hw=>eM 3 (hw.tape cR fin hl) (by decide) (by decide)))) (h:=λ x28 h28=>?_);refine oC ?_;refine mP ?_;refine Bb ?_
       refine fF ((x7,⟨mV.getD x18 ⟨#[]⟩,((x20:Nat):Int),((x23:Nat):Int),((x26:Nat):Int),((x28:Nat):Int)==0,⟨0,false⟩,kY l (kY l (kY l (kY l (kY l p))))⟩)) ?_
       ·exact pI h18.1
     ·refine iC (i:=19) (h:=λ x7=>?_)
      refine bG (i:=14) (hq:=(vC (hc:=λ w1 hw=>eM 4 (hw.tape cR fin hl) (by decide) (by decide)))) (h:=λ x26 h26=>?_);refine bG (i:=16) (hq:=(vC (hc:=λ w1 hw=>eM 3 (hw.tape cR fin hl) (by decide) (by decide)))) (h:=λ x28 h28=>?_);refine oC ?_;refine mP ?_;refine Bb ?_
      refine fF ((x7,⟨mV.getD x18 ⟨#[]⟩,((x20:Nat):Int),((x23:Nat):Int),((x26:Nat):Int),((x28:Nat):Int)==0,⟨0,false⟩,kY l (kY l (kY l (kY l (kY l p))))⟩)) ?_
      ·exact pI h18.1
    ·refine iC (i:=19) (h:=λ x7=>?_)
     refine bG (i:=11) (hq:=(vC (hc:=λ w1 hw=>eM 6 (hw.tape cR fin hl) (by decide) (by decide)))) (h:=λ x23 h23=>?_);refine nB ?_;refine bG (i:=14) (hq:=(vC (hc:=λ w1 hw=>eM 4 (hw.tape cR fin hl) (by decide) (by decide)))) (h:=λ x26 h26=>?_);refine bG (i:=16) (hq:=(vC (hc:=λ w1 hw=>eM 3 (hw.tape cR fin hl) (by decide) (by decide)))) (h:=λ x28 h28=>?_);refine oC ?_;refine mP ?_;refine Bb ?_
     refine fF ((x7,⟨mV.getD x18 ⟨#[]⟩,((x20:Nat):Int),((x23:Nat):Int),((x26:Nat):Int),((x28:Nat):Int)==0,⟨0,false⟩,kY l (kY l (kY l (kY l (kY l p))))⟩)) ?_
     ·exact pI h18.1
   ·refine iC (i:=19) (h:=λ x7=>?_)
    refine bG (i:=8) (hq:=(vC (hc:=λ w1 hw=>eM 6 (hw.tape cR fin hl) (by decide) (by decide)))) (h:=λ x20 h20=>?_);refine nB ?_;refine bG (i:=11) (hq:=(vC (hc:=λ w1 hw=>eM 6 (hw.tape cR fin hl) (by decide) (by decide)))) (h:=λ x23 h23=>?_);refine nB ?_;refine bG (i:=14) (hq:=(vC (hc:=λ w1 hw=>eM 4 (hw.tape cR fin hl) (by decide) (by decide)))) (h:=λ x26 h26=>?_);refine bG (i:=16) (hq:=(vC (hc:=λ w1 hw=>eM 3 (hw.tape cR fin hl) (by decide) (by decide)))) (h:=λ x28 h28=>?_);refine oC ?_;refine mP ?_;refine Bb ?_
    refine fF ((x7,⟨mV.getD x18 ⟨#[]⟩,((x20:Nat):Int),((x23:Nat):Int),((x26:Nat):Int),((x28:Nat):Int)==0,⟨0,false⟩,kY l (kY l (kY l (kY l (kY l p))))⟩)) ?_
    ·exact pI h18.1
  ·refine iC (i:=19) (h:=λ x7=>?_)
   refine bG (i:=6) (hq:=(vC (hc:=λ w1 hw=>vq (hw.tape cR fin hl)))) (h:=λ x18 h18=>?_);refine bG (i:=8) (hq:=(vC (hc:=λ w1 hw=>eM 6 (hw.tape cR fin hl) (by decide) (by decide)))) (h:=λ x20 h20=>?_);refine nB ?_;refine bG (i:=11) (hq:=(vC (hc:=λ w1 hw=>eM 6 (hw.tape cR fin hl) (by decide) (by decide)))) (h:=λ x23 h23=>?_);refine nB ?_;refine bG (i:=14) (hq:=(vC (hc:=λ w1 hw=>eM 4 (hw.tape cR fin hl) (by decide) (by decide)))) (h:=λ x26 h26=>?_);refine bG (i:=16) (hq:=(vC (hc:=λ w1 hw=>eM 3 (hw.tape cR fin hl) (by decide) (by decide)))) (h:=λ x28 h28=>?_);refine oC ?_;refine mP ?_;refine Bb ?_
   refine fF ((x7,⟨mV.getD x18 ⟨#[]⟩,((x20:Nat):Int),((x23:Nat):Int),((x26:Nat):Int),((x28:Nat):Int)==0,⟨0,false⟩,kY l (kY l (kY l (kY l (kY l p))))⟩)) ?_
   ·exact pI h18.1
 dsimp only[iB,List.map,List.cons_append,List.nil_append]
 have hy:=hx
 refine J2 ?_;refine kR ?_;refine aA ?_
 (refine eG 33 (λ g33=>?_) (λ g33=>?_)<;>(try (exfalso;omega))<;>((refine Ka3 ?_)))
 ((refine aF ?_;refine kR ?_));refine cA ?_;refine Ka4 ?_;refine kR ?_;refine aA ?_
 (refine eG 39 (λ g39=>?_) (λ g39=>?_)<;>refine Ka0 ?_)
 all_goals ((first|refine aI ?_|(refine aF ?_;refine kR ?_));refine Ka7 ?_)
 all_goals (first|refine aI ?_|(refine eG 43 (λ g43=>?_) (λ g43=>?_)<;>refine Ka0 ?_))
 all_goals ((first|refine aI ?_|(refine aF ?_;refine kR ?_));refine Ka7 ?_)
 all_goals (first|refine aI ?_|(refine eG 47 (λ g47=>?_) (λ g47=>?_)<;>refine Ka0 ?_))
 all_goals ((first|refine aI ?_|(refine aF ?_;refine kR ?_));refine cA ?_;refine zM ?_;refine dG ?_;refine R4 ?_;refine aC (vC (hc:=λ w1 hw=>eM ts.length (hw.tape cR fin hl) (by omega) (by omega))) (λ x57 h57=>?_);refine iW ?_;refine Gp ?_)
 all_goals
 refine nS [11,58,59,60,61,62,63,64,65,66,67,68,69,70,71,72,73,74,75,76,77,78,79,80,81,82,83,84,85,86,87,88,89,90,91,92,93,94,95,96,97,98,99,100] (λ z:Nat×dO=>[(11,.int .i64 ((z.1:Nat):Int))]) (λ z=>z.1<=ts.length) (λ z=>[(y.1,.cells ⟨Qv (({y.2 with t:=z.2}:Gw).cl kind mask)⟩ 89 (0,0)),(x6,.cells ⟨Qv ⟨0,⟨0,false⟩,0,0,0,0,0,0,⟨#[]⟩,0,0,0,false⟩⟩ 89 (0,0)),(tb,El a l c (kY l y.2.pos)),(bw,lV bm mask pt ts.length kt pe ne ke)]) (λ _=>_) (λ _=>_) (λ z=>ts.length-z.1) ((0,y.2.t)) (Nat.zero_le _) (λ z f hx=>?_)
 dsimp only[iB,List.map,List.cons_append,List.nil_append]
 all_goals (refine Da ?_;refine dG ?_;refine R4 ?_;refine Bq ?_)
 all_goals
  refine bE (λ c64=>?_) (λ c64=>?_)
  ·all_goals try (exfalso;omega)
   all_goals (refine sA ?_;refine aR ?_;refine gM [0,1,2,3,4,5,6,7,8,9,10,11,12,13,14,15,16] ?_;refine lr ?_;refine hU ?_;refine cP (i:=6) (hq:=(oT (m:=x57) (n:=z.1) rf rf (by omega))) (h:=?_);refine lr ?_;refine nW ?_;refine cP (i:=12) (hq:=(xz (a:=x57+z.1) (b:=ts.length) rf rf (by omega))) (h:=?_);refine bT (i:=13) (hq:=(N5 (cs:=qP ts) (k:=(x57+z.1)%ts.length) rf rf gO eE fin (Nat.mod_lt _ h0) (by rw[lP];have:=Nat.mod_lt (x57+z.1) h0;omega))) (h:=?_);refine bT (i:=14) (hq:=(Hd (ts:=ts) (q:=(x57+z.1)%ts.length) rf eE fin (Nat.mod_lt _ h0))) (h:=?_);refine aT ?_;refine lE (i:=16) (hq:=(gK λ _=>lU (off:=1) (vs:=[.int .i64 (ts.getD ((x57+z.1)%ts.length) ⟨0,false⟩).root,.bool (ts.getD ((x57+z.1)%ts.length) ⟨0,false⟩).ro]) rf cR rf rfl eE (Nat.le_of_ble_eq_true rfl) rf jC)) (h:=λ _=>?_);refine eO ?_;refine Ka6 ?_;refine Kc2 ?_)
   all_goals ((refine eG 86 (λ g86=>?_) (λ g86=>?_)<;>refine Ka0 ?_))
   all_goals ((first|refine aI ?_|(refine aF ?_;refine uI ?_));refine Ka7 ?_)
   all_goals (first|(refine aF ?_;refine aE ?_)|(refine eG 90 (λ g90=>?_) (λ g90=>?_)<;>(try (exfalso;omega))<;>(refine aI ?_)))
   all_goals (refine Ka1 ?_;refine Ka2 ?_;(first|refine aI ?_|(refine aF ?_;refine uI ?_));refine Ka0 ?_)
   all_goals (first|refine Aa ?_|(refine eG 95 (λ g95=>?_) (λ g95=>?_)<;>refine Ka0 ?_))
   all_goals ((first|refine aI ?_|refine Aa ?_|(refine aF ?_;refine uI ?_));(first|refine aI ?_|(refine aF ?_;refine cA ?_));refine cA ?_;refine aG ?_)
   all_goals
   refine bE (λ c99=>?_) (λ c99=>?_)
   ·try exact nv c99
    all_goals (refine oX ?_;refine J5 ?_)
    all_goals
     refine bB Tryz.results54 (λ w hw=>?_)
     exact⟨{y.2 with t:=ts.getD ((x57+z.1)%ts.length) ⟨0,false⟩,pos:=kY l y.2.pos},rfl,⟨hy,Gi (Nat.mod_lt _ h0),λ hk=>by first|(simp_all;done)|(unfold wrK at hk;exfalso;omega)⟩,hw.aX⟩
   ·try exact nv c99
    all_goals try (exfalso;omega)
    all_goals (refine Kc7 ?_)
    all_goals
     refine gU ((z.1+1,ts.getD ((x57+z.1)%ts.length) ⟨0,false⟩)) ?_
     ·omega
  ·all_goals try (exfalso;omega)
   all_goals (refine bR rfl ?_;refine lQ ?_;refine aB (N5 (cs:=qP ts) (k:=0) rf rf gO eE fin h0 (by rw[lP];omega)) rfl ?_;refine aB (Hd (ts:=ts) (q:=0) rf eE fin h0) rfl ?_;refine aE ?_;refine cB (gK λ _=>lU (off:=1) (vs:=[.int .i64 (ts.getD 0 ⟨0,false⟩).root,.bool (ts.getD 0 ⟨0,false⟩).ro]) rf cR rf rfl eE (Nat.le_of_ble_eq_true rfl) rf jC) (λ _=>?_);refine aG ?_;refine oX ?_;refine J5 ?_)
   all_goals
   refine bB Tryz.results54 (λ w hw=>?_)
   exact⟨{y.2 with t:=ts.getD 0 ⟨0,false⟩,pos:=kY l y.2.pos},rfl,⟨hy,Gi h0,λ _=>hr0⟩,hw.aX⟩
end
end Go.Proofs.YtbajmaoegmbfgaaGreat
