/- root: decide. -/
import Derived.Test.YtbajmaoegmbfgaaGreatGGc5
import Derived.Test.YtbajmaoegmbfgaaGreatGTr3

set_option linter.unusedSimpArgs false
set_option linter.unusedVariables false
namespace Go.Ct
section
open Go Go.RowKit
theorem bF.pre{P:Program}{S:List (Nat×Value)}{G G2:World->Prop}{o:Oper}{X:Type}{V:X->Value}{G':X->World->Prop}(h:∀w,G w->G2 w)(hl:bF P S G2 o X V G'):bF P S G o X V G':=⟨λ w hw=>hl.run w (h w hw)⟩
end
end Go.Ct
namespace Go.Proofs.YtbajmaoegmbfgaaGreat
section
open Go Go.RowKit Go.Ct
section
variable{D:List Nat}{A B:Fr}{a:AS}{b:Nat}{w:World}{f:FuncId}{cap:List Value}{t:fL}
theorem U6{Kt:Tr}{s:Mm}{b5:Nat}(hK:Za b Kt s f cap B)(o:Bool):qL b 173 [pt b5] [.bool o] (bx b5 [fn f cap]::B) s (Kt):=by
 intro a D A w em ok hm hA hB hw0
 subst em
 have hK2:=hK.more (B2:=(bx b5 [fn f cap]::B)) (λ x hx=>by simp[hx])
 refine enter Tryz.func173 Tryz.ntmps173 rfl rfl hw0 ?_
 simp only[bY]
 refine J0 ?_;refine aI (λ x3=>?_);refine aH ?_;refine J0 ?_;refine aB (kY b5 [fn f cap] 0 hB rfl) rfl ?_;refine aC (Td hK2.1 (hK2.2 a.mm (Mm.Le.refl _)) ok hm hA hB) (λ x5 h5=>?_);refine bS (fS λ _=>aS rf cL rf (bX _) dJ rf hJ) (λ _=>?_);refine aH ?_
 refine bD Tryz.results173 (λ w hw=>?_)
 exact⟨x5,rfl,h5,hw.rN⟩
theorem r8{Kt:Tr}{v r:Int}{s:Mm}{b4 b5:Nat}{nd:Nd}(hK:Za b Kt s f cap B)(hv:v<=s.nodes.length)(he:(eA s.nodes v).exp=nd.exp)(hst:(eA s.nodes v).status=nd.status)(hd:nd.status<=9223372036854775807):qL b 172 [pt b4,pt b5] [.int .i64 r] (bx b4 (nd.cells:List Value)::bx b5 [fn f cap]::B) s (.node v λ n2=>.node v λ n3=>.jN n3.status 0 (if r=n2.exp then 1 else 2) λ _=>Kt):=by
 intro a D A w em ok hm hA hB hw0
 subst em
 refine enter Tryz.func172 Tryz.ntmps172 rfl rfl hw0 ?_
 simp only[bY]
 refine J0 ?_;refine aI (λ x4=>?_);refine aH ?_;refine cR ?_;refine kM ?_;refine aE ?_;refine aB (kY b4 (nd.cells:List Value) 11 hB rfl) rfl ?_;refine uI ?_
 refine bE (λ c9=>?_) (λ c9=>?_)
 ·refine dW ?_;refine J1 ?_;refine J0 ?_;refine aE ?_;refine aB (kY b4 (nd.cells:List Value) 13 hB rfl) rfl ?_;refine aA ?_;(refine aB (cA (by(repeat (first|exact cD _|(apply bU;focus ((conv=>{lhs;whnf});try exact rfl))));done)) rfl ?_);refine aR (cV (hc:=λ w1 hw=>uV _ _ _ _ _ w1)) (λ x14=>?_);refine bS (fS λ _=>aS rf cL rf (bX _) dJ rf hJ) (λ _=>?_);refine aH ?_
  refine bD Tryz.results172 (λ w hw=>?_)
  refine⟨(vY nd.status 0 1 _ _,[],a),rfl,⟨⟨hv,hv,?_⟩,ok,AS.hU.refl a⟩,hw.rI⟩
  dsimp only
  rw[he,hst,if_pos (by omega)]
  exact⟨rfl,hd,by have:=ok.mo.two;omega,_,_,rfl,by kernel_rfl,λ o s1 l=>(U6 (b5:=b5) (hK.le l) o).mr (λ y hy=>List.mem_cons_of_mem _ hy)⟩
 ·refine bB ?_;refine J0 ?_;refine aE ?_;refine aB (kY b4 (nd.cells:List Value) 13 hB rfl) rfl ?_;refine aA ?_;(refine aB (cA (by(repeat (first|exact cD _|(apply bU;focus ((conv=>{lhs;whnf});try exact rfl))));done)) rfl ?_);refine aR (cV (hc:=λ w1 hw=>uV _ _ _ _ _ w1)) (λ x14=>?_);refine bS (fS λ _=>aS rf cL rf (bX _) dJ rf hJ) (λ _=>?_);refine aH ?_
  refine bD Tryz.results172 (λ w hw=>?_)
  refine⟨(vY nd.status 0 2 _ _,[],a),rfl,⟨⟨hv,hv,?_⟩,ok,AS.hU.refl a⟩,hw.rI⟩
  dsimp only
  rw[he,hst,if_neg (by omega)]
  exact⟨rfl,hd,by have:=ok.mo.two;omega,_,_,rfl,by kernel_rfl,λ o s1 l=>(U6 (b5:=b5) (hK.le l) o).mr (λ y hy=>List.mem_cons_of_mem _ hy)⟩
theorem X8{Kt:Tr}{v:Int}{nd:Nd}(ht:t.root<=9223372036854775807)(hK:Za b Kt a.mm f cap B)(hv:v<=a.mm.nodes.length)(ho:(eA a.mm.nodes v).bN=nd.bN)(he:(eA a.mm.nodes v).exp=nd.exp)(hst:(eA a.mm.nodes v).status=nd.status)(ok:a.Ok)(hm:a.mm.Small)(hA:∀f∈aM a.L,f∈A)(hB:∀x∈B,x∈A)(hs:SF w D [(b,eX a)] A [] (fU a) w) :
  Calls Tryz.prog 138 #[.agg ⟨lT b t⟩,nd.v,fn f cap] w (zK b (λ c' s' B'=>jB b (pB t v Kt) a.mm c' s' B') a B D w):=by
 have hol:nd.bN<=a.mm.nodes.length:=by rw[<- ho];exact(ok.mo.at v).bN
 have hd:nd.status<=9223372036854775807:=by rw[<- hst];exact nK hm (ok.mo.at v).status
 have hT:∀x4 x5:Nat,zS b (λ r=>.node v λ n2=>.node v λ n3=>.jN n3.status 0 (if r=n2.exp then 1 else 2) λ _=>Kt) a.mm 172 [.pointer (some ⟨x4,0,none⟩),.pointer (some ⟨x5,0,none⟩)] (bx x5 [fn f cap]::bx x4 (nd.cells:List Value)::B):=λ x4 x5=>⟨by kernel_rfl,λ r s1 l hr=>(r8 (b4:=x4) (b5:=x5) (nd:=nd) (hK.le l) (by have:=l.len;omega) (by rw[l.nd hv];exact he) (by rw[l.nd hv];exact hst) hd).mr (λ y hy=>by
  simp only[List.mem_cons] at hy ⊢
  rcases hy with h|h|h<;>simp[h])⟩
 refine enter Tryz.func138 Tryz.ntmps138 rfl rfl hs ?_
 simp only[bY]
 simp only[Nd.v,Nd.cells]
 refine J0 ?_;refine bO (λ x3=>?_);refine bO (λ x4=>?_);refine bO (λ x5=>?_);refine aI (λ x6=>?_);refine aH ?_;refine pK ?_;refine J3 ?_;(refine aB (cA (by(repeat (first|exact cD _|(apply bU;focus ((conv=>{lhs;whnf});try exact rfl))));done)) rfl ?_);(refine aR (bF.pre (λ w h=>(show SF _ _ [_,_,(b,eX a)] _ [(bx x5 [fn f cap]:Option Addr×List Value),bx x4 (nd.cells:List Value)] _ w from(h.cW (.tail (.tail .head))).cW (.tail .head))) (cM (V:=λ y:Cd×Fr×AS=>.agg ⟨y.1.cells⟩) (hs:=[(b,eX a)]) (os:=fU a) (hs':=λ y=>[(b,eX y.2.2)]) (os':=λ y=>fU y.2.2) (Fc:=λ y=>y.2.1) (A0:=bx x5 [fn f cap]::bx x4 (nd.cells:List Value)::A) (hA:=aX.jb) (hc:=λ w1 hw=>Wi ht (hT x4 x5) hol ok hm (λ f hf=>List.mem_cons_of_mem _ (List.mem_cons_of_mem _ (hA f hf))) (E8 hB) hw))) (λ x11=>?_);try (refine eZ (λ h11=>?_)));refine bS (fS λ _=>aS rf cL rf (bX _) dJ rf hJ) (λ _=>?_);refine aH ?_
 refine bD Tryz.results138 (λ w hw=>?_)
 refine⟨(x11.1,x11.2.1++[bx x5 [fn f cap],bx x4 (nd.cells:List Value)],x11.2.2),rfl,⟨⟨hv,?_⟩,h11.2.1,h11.2.2.more (λ f hf=>List.mem_append_left _ hf)⟩,hw.rI⟩
 dsimp only
 rw[ho,List.append_assoc]
 exact h11.1
end
end

/- root: Help. -/
section
open Go Go.RowKit Go.Ct
section
variable{D:List Nat}{A B:Fr}{a:AS}{b:Nat}{w:World}{f:FuncId}{cap:List Value}{t:fL}
theorem Z5{K:Int->Tr}{v x:Int}{s:Mm}{b1 b2 b3:Nat}(ht:t.root<=9223372036854775807)(hK:zS b K s f cap B)(hv:v<=s.nodes.length):qL b 147 [pt b1,pt b2,pt b3] [.int .i64 x] (bx b1 (lT b t)::bx b2 [iv v]::bx b3 [fn f cap]::B) s (oG t v x K):=by
 intro a D A w em ok hm hA hB hw0
 subst em
 have hK2:=hK.more (B2:=(bx b1 (lT b t)::bx b2 [iv v]::bx b3 [fn f cap]::B)) (λ x hx=>by simp[hx])
 refine enter Tryz.func147 Tryz.ntmps147 rfl rfl hw0 ?_
 simp only[bY]
 refine J0 ?_;refine aI (λ x5=>?_);refine aH ?_;refine J0 ?_;refine aB (Rf b1 (lT b t) 0 3 hB rfl rfl) rfl ?_;refine aB (kY b2 [.int .i64 v] 0 hB rfl) rfl ?_;refine aA ?_;refine aB (kY b3 [fn f cap] 0 hB rfl) rfl ?_;refine aC (zI (λ w1 hw=>qR ht hK2 hv ok hm hA hB hw)) (λ x10 h10=>?_);refine bS (fS λ _=>aS rf cL rf (bX _) dJ rf hJ) (λ _=>?_);refine aH ?_
 refine bD Tryz.results147 (λ w hw=>?_)
 exact⟨x10,rfl,h10,hw.rN⟩
theorem Zu{K:Int->Tr}{v:Int}{s:Mm}{b0 b1 b2 b3:Nat}{nd:Nd}(ht:t.root<=9223372036854775807)(hK:zS b K s f cap B)(hv:v<=s.nodes.length)(hst:(eA s.nodes v).status=nd.status):qL b 146 [pt b0,pt b1,pt b2,pt b3] [] (bx b0 (nd.cells:List Value)::bx b1 (lT b t)::bx b2 [iv v]::bx b3 [fn f cap]::B) s (.node v λ n=>.load n.status λ s=>oG t v s K):=by
 intro a D A w em ok hm hA hB hw0
 subst em
 have hd:nd.status<=9223372036854775807:=by rw[<- hst];exact nK hm (ok.mo.at v).status
 refine enter Tryz.func146 Tryz.ntmps146 rfl rfl hw0 ?_
 simp only[bY]
 refine J0 ?_;refine aI (λ x4=>?_);refine aH ?_;refine J0 ?_;refine aE ?_;refine aB (kY b0 (nd.cells:List Value) 13 hB rfl) rfl ?_;(refine aB (cA (by(repeat (first|exact cD _|(apply bU;focus ((conv=>{lhs;whnf});try exact rfl))));done)) rfl ?_);refine aR (cV (hc:=λ w1 hw=>nG _ _ _ w1)) (λ x8=>?_);refine bS (fS λ _=>aS rf cL rf (bX _) dJ rf hJ) (λ _=>?_);refine aH ?_
 refine bD Tryz.results146 (λ w hw=>?_)
 refine⟨(mY nd.status _ _,[],a),rfl,⟨⟨hv,?_⟩,ok,AS.hU.refl a⟩,hw.rI⟩
 dsimp only
 rw[hst]
 exact⟨rfl,hd,_,_,rfl,by kernel_rfl,λ x s1 l hx=>(Z5 (b1:=b1) (b2:=b2) (b3:=b3) ht (hK.le l) (by have:=l.len;omega)).mr (λ y hy=>List.mem_cons_of_mem _ hy)⟩
theorem jw{K:Int->Tr}{v x:Int}{s:Mm}{b0 b1 b2 b3:Nat}{nd:Nd}(ht:t.root<=9223372036854775807)(hK:zS b K s f cap B)(hv:v<=s.nodes.length)(ho:(eA s.nodes v).bN=nd.bN)(he:(eA s.nodes v).exp=nd.exp)(hst:(eA s.nodes v).status=nd.status):qL b 145 [pt b1,pt b2,pt b3,pt b0] [.int .i64 x] (bx b1 (lT b t)::bx b2 [iv v]::bx b3 [fn f cap]::bx b0 (nd.cells:List Value)::B) s (if x=0 then pB t v (.node v λ n=>.load n.status λ s=>oG t v s K) else oG t v x K):=by
 intro a D A w em ok hm hA hB hw0
 subst em
 have hK2:=hK.more (B2:=(bx b1 (lT b t)::bx b2 [iv v]::bx b3 [fn f cap]::bx b0 (nd.cells:List Value)::B)) (λ x hx=>by simp[hx])
 have hT:Za b (.node v λ n=>.load n.status λ s=>oG t v s K) a.mm 146 [.pointer (some ⟨b0,0,none⟩),.pointer (some ⟨b1,0,none⟩),.pointer (some ⟨b2,0,none⟩),.pointer (some ⟨b3,0,none⟩)] (bx b1 (lT b t)::bx b2 [iv v]::bx b3 [fn f cap]::bx b0 (nd.cells:List Value)::B):=⟨by kernel_rfl,λ s1 l=>(Zu (b0:=b0) (b1:=b1) (b2:=b2) (b3:=b3) (nd:=nd) ht (hK.le l) (by have:=l.len;omega) (by rw[l.nd hv];exact hst)).mr (λ y hy=>by
  simp only[List.mem_cons] at hy ⊢
  rcases hy with h|h|h|h|h<;>simp[h])⟩
 refine enter Tryz.func145 Tryz.ntmps145 rfl rfl hw0 ?_
 simp only[bY]
 refine J0 ?_;refine aI (λ x6=>?_);refine aH ?_;refine kM ?_;refine qA ?_;refine aH ?_
 refine bE (λ c8=>?_) (λ c8=>?_)
 ·refine J0 ?_;refine aB (Rf b1 (lT b t) 0 3 hB rfl rfl) rfl ?_;refine aB (kY b2 [.int .i64 v] 0 hB rfl) rfl ?_;refine aA ?_;refine aB (kY b3 [fn f cap] 0 hB rfl) rfl ?_;refine aC (zI (λ w1 hw=>qR ht hK2 hv ok hm hA hB hw)) (λ x13 h13=>?_);refine bS (fS λ _=>aS rf cL rf (bX _) dJ rf hJ) (λ _=>?_);refine aH ?_
  refine bD Tryz.results145 (λ w hw=>?_)
  refine⟨x13,rfl,⟨?_,h13.2⟩,hw.rN⟩
  rw[if_neg (by omega)]
  exact h13.1
 ·refine bB ?_;refine J0 ?_;refine aB (Rf b1 (lT b t) 0 3 hB rfl rfl) rfl ?_;refine aB (Rf b0 (nd.cells:List Value) 0 14 hB rfl rfl) rfl ?_;(refine aB (cA (by(repeat (first|exact cD _|(apply bU;focus ((conv=>{lhs;whnf});try exact rfl))));done)) rfl ?_);refine aC (zI (λ w1 hw=>X8 (nd:=nd) ht hT hv ho he hst ok hm hA hB hw)) (λ x17 h17=>?_);refine bS (fS λ _=>aS rf cL rf (bX _) dJ rf hJ) (λ _=>?_);refine aH ?_
  refine bD Tryz.results145 (λ w hw=>?_)
  refine⟨x17,rfl,⟨?_,h17.2⟩,hw.rN⟩
  rw[if_pos (by omega)]
  exact h17.1
theorem ei{K:Int->Tr}{v:Int}{s:Mm}{b1 b3:Nat}(ht:t.root<=9223372036854775807)(hK:zS b K s f cap B)(hv:v<=s.nodes.length):qL b 144 [pt b1,pt b3] [.int .i64 v] (bx b1 (lT b t)::bx b3 [fn f cap]::B) s (.node v λ n=>if n.kind=2 then K v else .node v λ n=>.load n.status λ s=>if s=0 then pB t v (.node v λ n=>.load n.status λ s=>oG t v s K) else oG t v s K):=by
 intro a D A w em ok hm hA hB hw0
 subst em
 have hK2:=hK.more (B2:=(bx b1 (lT b t)::bx b3 [fn f cap]::B)) (λ x hx=>by simp[hx])
 have nv:=Ay ok v
 refine enter Tryz.func144 Tryz.ntmps144 rfl rfl hw0 ?_
 simp only[bY]
 refine J0 ?_;refine bO (λ x3=>?_);refine aI (λ x4=>?_);refine aH ?_;refine J0 ?_;refine aE ?_;refine aB (kY b1 (lT b t) 0 hB rfl) rfl ?_;refine bR ?_;refine aC (B9 v ok hm hA hv) (λ x9 h9=>?_);refine aI (λ x5=>?_);refine J5 ?_;refine Du ?_;refine uI ?_
 refine bE (λ c12=>?_) (λ c12=>?_)
 ·refine J0 ?_;refine aB (kY b3 [fn f cap] 0 hB rfl) rfl ?_;refine bR ?_;refine aC (Td hK2.1 (hK2.2 v a.mm (Mm.Le.refl _) hv) ok hm hA hB) (λ x15 h15=>?_);refine bS (fS λ _=>aS rf cL rf (bX _) dJ rf hJ) (λ _=>?_);refine aH ?_
  refine bD Tryz.results144 (λ w hw=>?_)
  refine⟨x15,rfl,⟨⟨hv,?_⟩,h15.2⟩,hw.rN⟩
  rw[fW]
  dsimp only
  rw[if_pos (by assumption)]
  exact h15.1
 ·refine bB ?_;refine gZ ?_;(refine aB (cA (by(repeat (first|exact cD _|(apply bU;focus ((conv=>{lhs;whnf});try exact rfl))));done)) rfl ?_);refine aR (cV (hc:=λ w1 hw=>nG _ _ _ w1)) (λ x19=>?_);refine bS (fS λ _=>aS rf cL rf (bX _) dJ rf hJ) (λ _=>?_);refine aH ?_
  refine bD Tryz.results144 (λ w hw=>?_)
  refine⟨(mY (aD (cB a.L) v).nd.status _ _,[bx x5 (((aD (cB a.L) v).at_ x9.1 x9.2).nd.cells:List Value),bx x3 [iv v]],a),rfl,⟨⟨hv,?_⟩,ok,(AS.hU.refl a).more (λ _ h=>(List.not_mem_nil h).elim)⟩,?_⟩
  ·rw[fW]
   dsimp only
   rw[if_neg (by assumption)]
   refine⟨hv,?_⟩
   rw[fW]
   refine⟨rfl,nK hm nv.status,_,_,rfl,by kernel_rfl,λ x s1 l hx=>?_⟩
   have hlen:=l.len
   exact(jw (b0:=x5) (b1:=b1) (b2:=x3) (b3:=b3) (nd:=((aD (cB a.L) v).at_ x9.1 x9.2).nd) ht (hK.le l) (by omega) (by rw[l.nd hv,fW];rfl) (by rw[l.nd hv,fW];rfl) (by rw[l.nd hv,fW];rfl)).mr (λ y hy=>by
   simp only[List.mem_cons,List.append_eq,List.nil_append,List.mem_append,List.not_mem_nil,or_false] at hy ⊢
   rcases hy with h|h|h|h|h<;>simp[h])
  ·exact((hw.cW (.tail (.tail .head))).cW .head).rI
theorem sv{K:Int->Tr}(ht:t.root<=9223372036854775807)(hK:zS b K a.mm f cap B)(ok:a.Ok)(hm:a.mm.Small)(hA:∀f∈aM a.L,f∈A)(hB:∀x∈B,x∈A)(hs:SF w D [(b,eX a)] A [] (fU a) w) :
  Calls Tryz.prog 102 #[.agg ⟨lT b t⟩,fn f cap] w (zK b (λ c' s' B'=>jB b (kT t K) a.mm c' s' B') a B D w):=by
 refine enter Tryz.func102 Tryz.ntmps102 rfl rfl hs ?_
 simp only[bY]
 refine J0 ?_;refine bO (λ x2=>?_);refine bO (λ x3=>?_);refine aI (λ x4=>?_);refine aH ?_;refine J0 ?_;refine aE ?_;refine J3 ?_;(refine aB (cA (by(repeat (first|exact cD _|(apply bU;focus ((conv=>{lhs;whnf});try exact rfl))));done)) rfl ?_);refine aR (cV (hc:=λ w1 hw=>nG _ _ _ w1)) (λ x9=>?_);refine bS (fS λ _=>aS rf cL rf (bX _) dJ rf hJ) (λ _=>?_);refine aH ?_
 refine bD Tryz.results102 (λ w hw=>?_)
 refine⟨(mY t.root _ _,[bx x2 (lT b t),bx x3 [fn f cap]],a),rfl,⟨⟨rfl,ht,_,_,rfl,by kernel_rfl,λ v s1 l hv=>ei (b1:=x2) (b3:=x3) ht (hK.le l) hv⟩,ok,(AS.hU.refl a).more (λ _ h=>(List.not_mem_nil h).elim)⟩,?_⟩
 exact((hw.cW (.tail .head)).cW (.tail .head)).rI
end
end

/- Tries of worlds: a cell is set; nodes and cells are added. -/
section
open Go.Ct
section
variable{H:ByteArray->Nat}{σ τ υ:Kw}{r:Int}{w:List Nat}
theorem lJ{cs:List Int}{c o v:Int}(h:iI cs c o)(c':Int):cS (eD cs c o v) c'=if c'=c then v else cS cs c':=by
 have hl:=gT (cs:=cs) (c:=c) (bN:=o) (new:=v)
 obtain⟨h1,h2,h3⟩:=h
 have e:eD cs c o v=cs.set (c-1).toNat v:=if_pos ⟨h1,h2,h3⟩
 unfold cS
 rw[hl]
 by_cases hc:1<=c'/\c'<=cs.length
 ·rw[if_pos hc,if_pos hc,e]
  by_cases e2:c'=c
  ·subst e2
   rw[if_pos rfl]
   rw[kQ,List.getElem?_set,if_pos rfl,if_pos (by omega)]
   rfl
  ·rw[if_neg e2]
   rw[kQ,List.getElem?_set,if_neg (by omega),kQ]
 ·rw[if_neg hc,if_neg hc,if_neg (by omega)]
theorem As{cs:List Int}{c o:Int}(h:iI cs c o):cS cs c=o:=by
 obtain⟨h1,h2,h3⟩:=h
 unfold cS
 rw[if_pos ⟨h1,h2⟩,h3]
theorem wF.in(h:wF σ r w):1<=r/\r<=σ.len:=eR (by rw[h.1];decide)
theorem oS.in{g:Int}(h:oS σ r w g):1<=r/\r<=σ.len:=jF h.1
theorem Inv.nQ(i:Inv H σ){m:Int}(h:dS (σ.nd m)):1<=(σ.nd m).prev/\(σ.nd m).prev<=σ.cl/\σ.ct (σ.nd m).prev=.prev m:=by
 have hr:=jF h
 have hn:=i.nd m hr.1 hr.2
 have hb:=hn.bd.prev
 rcases h with h|h|h
 ·have:=hn.k3 h;exact⟨this.2.2.2.1,hb,this.2.2.2.2⟩
 ·have:=hn.k5 h;exact⟨this.2.2.2.2.1,hb,this.2.2.2.2.2⟩
 ·have:=hn.k6 h;exact⟨this.2.2.2.1,hb,this.2.2.2.2⟩
theorem Inv.vB(i:Inv H σ){r:Int}(h:(σ.nd r).kind=2):1<=(σ.nd r).main/\(σ.nd r).main<=σ.cl/\σ.ct (σ.nd r).main=.main r:=by
 have hr:=eR (N:=σ.mm.nodes) (i:=r) (by rw[h];decide)
 have hn:=i.nd r hr.1 hr.2
 exact⟨(hn.k2 h).2.1,hn.bd.main,(hn.k2 h).2.2⟩
theorem wF.up(h:wF σ r w)(l:Le σ τ):wF τ r w:=by
 have hr:=h.in
 exact⟨by rw[l.nd hr.2];exact h.1,by rw[l.way r hr.2];exact h.2⟩
theorem oS.up{g:Int}(h:oS σ r w g)(l:Le σ τ):oS τ r w g:=by
 have hr:=h.in
 exact⟨by rw[l.nd hr.2];exact h.1,by rw[l.way r hr.2];exact h.2.1,by rw[l.gb r hr.2];exact h.2.2⟩
theorem oS.le{g g':Int}(h:oS σ r w g)(hg:g<=g'):oS σ r w g':=⟨h.1,h.2.1,Int.le_trans h.2.2 hg⟩
theorem dV.up(i:Inv H σ)(hm:dS (σ.nd r))(h:dV σ r)(l:Le σ τ):dV τ r:=by
 have hc:=i.nQ hm
 unfold dV
 rw[l.nd (jF hm).2,l.done _ r hc.1 hc.2.1 hc.2.2 (by rw[h];exact hY (.inl (sO _)))]
 exact h
theorem nw.same{c:Int}(h:nw σ c)(hm:υ.mm.nodes=σ.mm.nodes)(hw:υ.way=σ.way)(hg:υ.gb=σ.gb)(hct:υ.ct=σ.ct)(hc:υ.ce c=σ.ce c)(hs:∀p,dS (σ.nd p)->dV σ p->dV υ p):nw υ c:=by
 have hl:υ.len=σ.len:=by simp only[Kw.len,hm]
 have hn:∀r,υ.nd r=σ.nd r:=λ r=>by simp only[Kw.nd,hm]
 have hM:∀p w g,oS σ p w g->oS υ p w g:=λ p w g h=>⟨by rw[hn];exact h.1,by rw[hw];exact h.2.1,by rw[hg];exact h.2.2⟩
 have hP:∀m p,oP σ m p->oP υ m p:=λ m p h=>⟨by rw[hw,hg];exact hM _ _ _ h.1,hs p h.1.1 h.2⟩
 refine⟨by rw[hc];exact h.lo,by rw[hc,hl];exact h.hi,λ i e=>?_,λ m e=>?_,λ d e=>?_,λ e=>?_,λ e=>?_⟩
 ·rw[hc,hw,hn]
  obtain⟨h0,h1⟩:=h.main i (by rw[<- hct];exact e)
  exact⟨h0,hM _ _ _ h1⟩
 ·rw[hc,hn,hn]
  obtain⟨h0,h⟩:=h.prev m (by rw[<- hct];exact e)
  refine⟨h0,?_⟩
  rcases h with h1|h1|⟨h1,h2⟩
  ·exact .inl h1
  ·exact .inr (.inl (hP _ _ h1))
  ·exact .inr (.inr ⟨h1,hP _ _ h2⟩)
 ·rw[hc];exact h.stat d (by rw[<- hct];exact e)
 ·rw[hc,hn]
  rcases h.root (by rw[<- hct];exact e) with h1|h1
  ·exact .inl ⟨by rw[hn];exact h1.1,by rw[hw];exact h1.2⟩
  ·exact .inr h1
 ·rw[hc]
  have h1:=h.rort (by rw[<- hct];exact e)
  exact⟨by rw[hn];exact h1.1,by rw[hw];exact h1.2⟩
theorem gB.jN{N:List Nv}{cs:List Int}{gen c o v:Int}(h:gB N cs gen)(lo:0<=v)(hi:v<=N.length):gB N (eD cs c o v) gen:=by
 unfold eD
 split
 ·refine⟨h.two,h.gen0,h.m0,h.m1,λ i hi'=>?_,h.nodes,by rw[List.length_set];exact h.marks⟩
  rw[List.length_set] at hi'
  rw[kQ,List.getElem?_set]
  split
  ·rw[if_pos (by omega)]
   exact⟨lo,by rw[List.length_map];exact hi⟩
  ·rw[<- kQ]
   exact h.cells i hi'
 ·exact h
structure Pe(σ:Kw)(c o v:Int):Prop where
 lo:0<=v
 hi:v<=σ.len
 main:∀i,σ.ct c=.main i->oS σ v (σ.way i) (σ.nd i).gen
 prev:∀m,σ.ct c=.prev m->dS (σ.nd o)/\(v=0∨((σ.nd v).kind=7/\(σ.nd v).bN=o))
 stat:∀d,σ.ct c=.stat d->v=0∨v=1∨v=2
 root:σ.ct c=.root->wF σ v []∨(σ.nd v).kind=8
 rort:σ.ct c=.rort->wF σ v []
theorem iu{c o v:Int}(i:Inv H σ)(hk:iI σ.mm.cs c o)(hs:Pe σ c o v):∃υ,Le σ υ/\Inv H υ/\υ.mm=⟨σ.mm.nodes,eD σ.mm.cs c o v,σ.mm.gen⟩/\υ.ce c=v:=by
 refine⟨⟨⟨σ.mm.nodes,eD σ.mm.cs c o v,σ.mm.gen⟩,σ.way,σ.gb,σ.ct⟩,?_,?_,rfl,by show cS (eD _ _ _ _) c=v;rw[lJ hk,if_pos rfl]⟩
 ·refine⟨⟨[],by simp⟩,by simp only[Kw.cl,gT];exact Nat.le_refl _,Int.le_refl _,λ _ _=>rfl,λ _ _=>rfl,λ _ _=>rfl,λ c' m h1 hc e hm=>?_,λ c' m h1 hc e hm=>?_⟩
  ·show cS (eD _ _ _ _) c'=_
   rw[lJ hk]
   split
   ·rename_i e2
    subst e2
    exact absurd (by rw[show σ.ce c'=o from As hk];exact(hs.prev m e).1) hm
   ·rfl
  ·show cS (eD _ _ _ _) c'=_∨cS (eD _ _ _ _) c'=_∨_
   rw[lJ hk]
   split
   ·rename_i e2
    subst e2
    have e3:σ.ce c'=o:=As hk
    rcases(hs.prev m e).2 with h|h
    ·exact .inr (.inl h)
    ·refine .inr (.inr ?_)
     show(eA σ.mm.nodes (cS (eD _ _ _ _) c')).kind=7/\(eA σ.mm.nodes (cS (eD _ _ _ _) c')).bN=_
     rw[lJ hk,if_pos rfl,e3]
     exact h
   ·exact .inl rfl
 ·have hcl:(eD σ.mm.cs c o v).length=σ.cl:=gT
  refine⟨i.two,i.m1,i.m2,i.gen,gB.jN i.prop hs.lo hs.hi,λ r h1 h2=>?_,λ c' h1 h2=>?_⟩
  ·have h:=i.nd r h1 h2
   exact⟨h.valid,h.gen,by simp only[Kw.cl,hcl];exact h.bd,h.k2,h.k3,h.k4,h.k5,h.k6,h.k7,h.k8⟩
  ·simp only[Kw.cl,hcl] at h2
   have hset:∀p,dS (σ.nd p)->dV σ p->cS (eD σ.mm.cs c o v) (σ.nd p).prev=0:=λ p hm hp=>by
    rw[lJ hk]
    split
    ·rename_i e
     have hc:=(i.nQ hm).2.2
     rw[e] at hc
     have h0:σ.ce (σ.nd p).prev=0:=hp
     rw[e,show σ.ce c=o from As hk] at h0
     have:=(hs.prev p hc).1
     rw[h0] at this
     exact absurd this (hY (.inl (sO _)))
    ·exact hp
   by_cases e:c'=c
   ·subst e
    have e2:cS (eD σ.mm.cs c' o v) c'=v:=by rw[lJ hk,if_pos rfl]
    have e3:σ.ce c'=o:=As hk
    refine⟨by simp only[Kw.ce,e2];exact hs.lo,by simp only[Kw.ce,e2];exact hs.hi,λ i' h=>?_,λ m h=>?_,λ d h=>?_,λ h=>?_,λ h=>?_⟩
    ·simp only[Kw.ce,e2];exact⟨((i.ce c' h1 h2).main i' h).1,hs.main i' h⟩
    ·simp only[Kw.ce,e2]
     have hp:=hs.prev m h
     have hold:oP σ m o:=by
      rcases((i.ce c' h1 h2).prev m h).2 with h3|h3|h3
      ·rw[e3] at h3;rw[h3] at hp;exact absurd hp.1 (hY (.inl (sO _)))
      ·rwa [e3] at h3
      ·rw[e3] at h3;exact absurd hp.1 (hY (.inr (.inl h3.1)))
     refine⟨((i.ce c' h1 h2).prev m h).1,?_⟩
     rcases hp.2 with h3|⟨h3,h4⟩
     ·exact .inl h3
     ·refine .inr (.inr ⟨h3,?_⟩)
      show oP _ m (σ.nd v).bN
      rw[h4]
      exact⟨hold.1,hset _ hp.1 hold.2⟩
    ·simp only[Kw.ce,e2];exact hs.stat d h
    ·simp only[Kw.ce,e2];exact hs.root h
    ·simp only[Kw.ce,e2];exact hs.rort h
   ·exact(i.ce c' h1 h2).same rfl rfl rfl rfl (by show cS (eD _ _ _ _) c'=_;rw[lJ hk,if_neg e]) hset
structure Ext(σ υ:Kw):Prop where
 nodes:∃N,υ.mm.nodes=σ.mm.nodes++N
 cs:∃C,υ.mm.cs=σ.mm.cs++C
 gen:σ.mm.gen<=υ.mm.gen
 way:∀r:Int,r<=σ.len->υ.way r=σ.way r
 gb:∀r:Int,r<=σ.len->υ.gb r=σ.gb r
 ct:∀c:Int,c<=σ.cl->υ.ct c=σ.ct c
theorem I9{cs C:List Int}{c:Int}(h:c<=cs.length):cS (cs++C) c=cS cs c:=by
 unfold cS
 by_cases h1:1<=c
 ·rw[if_pos ⟨h1,by simp;omega⟩,if_pos ⟨h1,h⟩,kQ,kQ,List.getElem?_append_left (by omega)]
 ·rw[if_neg (by omega),if_neg (by omega)]
theorem Ext.ce(e:Ext σ υ){c:Int}(h:c<=σ.cl):υ.ce c=σ.ce c:=by obtain⟨C,h2⟩:=e.cs;simp only[Kw.ce,h2];exact I9 h
theorem Ext.cl(e:Ext σ υ):σ.cl<=υ.cl:=by obtain⟨C,h2⟩:=e.cs;simp only[Kw.cl,h2,List.length_append];omega
theorem Ext.le(e:Ext σ υ):Le σ υ:=⟨e.nodes,e.cl,e.gen,e.way,e.gb,e.ct,λ _ _ _ h _ _=>e.ce h,λ _ _ _ h _ _=>.inl (e.ce h)⟩
theorem Mx.up{g b:Int}(h:Mx σ w g b)(l:Le σ υ):Mx υ w g b:=by
 rcases h with h|h
 ·have hr:=eR (N:=σ.mm.nodes) (i:=b) (by rw[h.1];decide)
  exact .inl (by rw[l.nd hr.2];exact h)
 ·have hr:=eR (N:=σ.mm.nodes) (i:=b) (by rw[h.1];decide)
  exact .inr (by rw[l.nd hr.2,l.way b hr.2];exact h)
theorem yg.ext(h:yg H σ r)(hr:r<=σ.len)(e:Ext σ υ):yg H υ r:=by
 have l:=e.le
 have hn:=l.nd hr
 have hw:=l.way r hr
 have hk:∀b,(σ.nd b).kind=2->(υ.nd b).kind=2:=λ b hb=>by rw[l.nd (eR (N:=σ.mm.nodes) (i:=b) (by rw[hb];decide)).2];exact hb
 refine⟨by rw[hn];exact h.valid,by rw[hn];have:=h.gen;have:=e.gen;omega,by rw[hn];exact h.bd.mono l.len l.cl,λ k=>?_,λ k=>?_,λ k=>?_,λ k=>?_,λ k=>?_,λ k=>?_,λ k=>?_⟩<;>rw[hn] at k ⊢
 ·obtain⟨h1,h2,h3⟩:=h.k2 k
  exact⟨by rw[hw];exact h1,h2,by rw[l.ct _ h.bd.main];exact h3⟩
 ·obtain⟨h1,h2,h3,h4,h5⟩:=h.k3 k
  rw[hw]
  refine⟨h1,λ k' b hb=>by rw[l.gb r hr];exact(h2 k' b hb).up l,λ h0=>⟨(h3 h0).1,λ b hb=>hk b ((h3 h0).2 b hb)⟩,h4,by rw[l.ct _ h.bd.prev];exact h5⟩
 ·exact h.k4 k
 ·rw[hw,l.ct _ h.bd.prev];exact h.k5 k
 ·rw[hw,l.ct _ h.bd.prev];exact h.k6 k
 ·have:=h.k7 k
  rw[l.nd (jF this).2];exact this
 ·obtain⟨h1,h2,h3,h4⟩:=h.k8 k
  exact⟨h1.up l,h2.up l,h3,by rw[l.ct _ h.bd.status];exact h4⟩
theorem nw.ext{c:Int}(i:Inv H σ)(h:nw σ c)(hc:c<=σ.cl)(e:Ext σ υ):nw υ c:=by
 have l:=e.le
 have hv:=e.ce hc
 have hP:∀m p:Int,m<=σ.len->oP σ m p->oP υ m p:=λ m p hm hp=>⟨by rw[l.way m hm,l.gb m hm];exact hp.1.up l,dV.up i hp.1.1 hp.2 l⟩
 refine⟨by rw[hv];exact h.lo,by rw[hv];have:=h.hi;have:=l.len;omega,λ i' k=>?_,λ m k=>?_,λ d k=>?_,λ k=>?_,λ k=>?_⟩<;>rw[l.ct c hc] at k<;>rw[hv]
 ·obtain⟨h1,h2⟩:=h.main i' k
  have hr:=eR (N:=σ.mm.nodes) (i:=i') (by rw[h1];decide)
  rw[l.nd hr.2,l.way i' hr.2]
  exact⟨h1,h2.up l⟩
 ·obtain⟨h1,h2⟩:=h.prev m k
  have hr:=jF h1
  rw[l.nd hr.2]
  refine⟨h1,?_⟩
  rcases h2 with h2|h2|⟨h2,h3⟩
  ·exact .inl h2
  ·exact .inr (.inl (hP m _ hr.2 h2))
  ·refine .inr (.inr ?_)
   rw[l.nd h.hi]
   exact⟨h2,hP m _ hr.2 h3⟩
 ·exact h.stat d k
 ·rcases h.root k with h1|h1
  ·exact .inl (h1.up l)
  ·exact .inr (by rw[l.nd h.hi];exact h1)
 ·exact(h.rort k).up l
theorem L5(i:Inv H σ)(e:Ext σ υ)(hp:gB υ.mm.nodes υ.mm.cs υ.mm.gen)(hn:∀r:Int,σ.len<r->r<=υ.len->yg H υ r)(hc:∀c:Int,σ.cl<c->c<=υ.cl->nw υ c):Inv H υ:=by
 have l:=e.le
 refine⟨Nat.le_trans i.two l.len,by rw[l.nd (by have:=i.two;omega)];exact i.m1,by rw[l.nd (by have:=i.two;omega)];exact i.m2,Int.le_trans i.gen e.gen,hp,λ r h1 h2=>?_,λ c h1 h2=>?_⟩
 ·rcases Int.lt_or_le σ.len r with h|h
  ·exact hn r h h2
  ·exact(i.nd r h1 h).ext h e
 ·rcases Int.lt_or_le σ.cl c with h|h
  ·exact hc c h h2
  ·exact nw.ext i (i.ce c h1 h) h e
def Kw.add(σ:Kw)(n:Nv)(i:Int)(w:List Nat)(g:Int)(t:CT):Kw :=
 ⟨σ.mm.push n i,λ r=>if r<=σ.len then σ.way r else w,λ r=>if r<=σ.len then σ.gb r else g,λ c=>if c<=σ.cl then σ.ct c else t⟩
theorem Ue(σ:Kw)(n:Nv)(i:Int)(w:List Nat)(g:Int)(t:CT):Ext σ (σ.add n i w g t) :=
 ⟨⟨_,rfl⟩,by unfold Kw.add Mm.push fX;dsimp only;split;exact⟨_,rfl⟩;exact⟨[],by simp⟩,Int.le_refl _,λ r hr=>if_pos hr,λ r hr=>if_pos hr,λ c hc=>if_pos hc⟩
theorem U3(σ:Kw)(n:Nv)(i:Int)(w:List Nat)(g:Int)(t:CT):(σ.add n i w g t).len=σ.len+1:=by simp[Kw.len,Kw.add,Mm.push]
theorem aAn(σ:Kw)(n:Nv)(i:Int)(w:List Nat)(g:Int)(t:CT):(σ.add n i w g t).nd ((σ.len+1:Nat):Int)=dK n σ.cl:=by
 simp only[Kw.nd,Kw.add,Mm.push,eA,List.length_append,List.length_cons,List.length_nil]
 rw[if_pos ⟨by omega,by simp only[Kw.len];omega⟩]
 have e:(((σ.len+1:Nat):Int)-1).toNat=σ.mm.nodes.length:=by simp only[Kw.len];omega
 rw[e]
 simp[kQ]
theorem qi(σ:Kw)(n:Nv)(i:Int)(w:List Nat)(g:Int)(t:CT):(σ.add n i w g t).way ((σ.len+1:Nat):Int)=w:=if_neg (by omega)
theorem ym(σ:Kw)(n:Nv)(i:Int)(w:List Nat)(g:Int)(t:CT):(σ.add n i w g t).gb ((σ.len+1:Nat):Int)=g:=if_neg (by omega)
theorem yb(σ:Kw)(n:Nv)(i:Int)(w:List Nat)(g:Int)(t:CT):(σ.add n i w g t).ct ((σ.cl+1:Nat):Int)=t:=if_neg (by omega)
theorem z9(σ:Kw){n:Nv}(i:Int)(w:List Nat)(g:Int)(t:CT)(h:n.kind=2∨n.kind=3∨n.kind=5∨n.kind=6∨n.kind=8):(σ.add n i w g t).cl=σ.cl+1/\(σ.add n i w g t).ce ((σ.cl+1:Nat):Int)=i:=by
 have e:(σ.add n i w g t).mm.cs=σ.mm.cs++[i]:=by simp only[Kw.add,Mm.push,fX];exact if_pos h
 refine⟨by simp[Kw.cl,e],?_⟩
 simp only[Kw.ce,e,cS,List.length_append,List.length_cons,List.length_nil]
 rw[if_pos ⟨by omega,by simp only[Kw.cl];omega⟩]
 have e2:(((σ.cl+1:Nat):Int)-1).toNat=σ.mm.cs.length:=by simp only[Kw.cl];omega
 rw[e2]
 simp[kQ]
theorem o7(σ:Kw){n:Nv}(i:Int)(w:List Nat)(g:Int)(t:CT)(h:¬(n.kind=2∨n.kind=3∨n.kind=5∨n.kind=6∨n.kind=8)):(σ.add n i w g t).cl=σ.cl:=by
 have e:(σ.add n i w g t).mm.cs=σ.mm.cs:=by simp only[Kw.add,Mm.push,fX];exact if_neg h
 simp[Kw.cl,e]
theorem tu{n:Nv}{i:Int}{g:Int}{t:CT}(h:Inv H σ)(hok:nT σ.mm.gen (σ.len+1) (dK n σ.cl).dv)(hi:Ip i σ.len)(hn:yg H (σ.add n i w g t) ((σ.len+1:Nat):Int))(hc:(σ.add n i w g t).cl=σ.cl+1->nw (σ.add n i w g t) ((σ.cl+1:Nat):Int))(hcl:(σ.add n i w g t).cl<=σ.cl+1):Inv H (σ.add n i w g t):=by
 refine L5 h (Ue σ n i w g t) (gB.push h.prop hok hi) (λ r h1 h2=>?_) (λ c h1 h2=>?_)
 ·rw[U3] at h2
  rw[show r=((σ.len+1:Nat):Int) by omega];exact hn
 ·rw[show c=((σ.cl+1:Nat):Int) by omega];exact hc (by omega)
end
end

end Go.Proofs.YtbajmaoegmbfgaaGreat
