/- root: decide. -/
import Derived.Test.YtbajmaoegmbfgaaGreatGGc5
import Derived.Test.YtbajmaoegmbfgaaGreatGTr3

set_option linter.unusedSimpArgs false
set_option linter.unusedVariables false
namespace Go.Ct
section
open Go Go.RowKit
theorem bF.pre{P:Program}{S:List (Nat×Value)}{G G2:World->Prop}{o:Oper}{X:Type}{V:X->Value}{G':X->World->Prop}(h:∀w,G w->G2 w)(hl:bF P S G2 o X V G'):bF P S G o X V G':=⟨λ w hw=>hl.run w (h w hw)⟩
end
end Go.Ct
namespace Go.Proofs.YtbajmaoegmbfgaaGreat
section
open Go Go.RowKit Go.Ct
section
variable{D:List Nat}{A B:Fr}{a:AS}{b:Nat}{w:World}{f:FuncId}{cap:List Value}{t:fY}
theorem Te{Kt:Tr}{s:Mm}{b5:Nat}(hK:Xm b Kt s f cap B)(o:Bool):pW b 173 [pt b5] [.bool o] (bx b5 [fn f cap]::B) s (Kt):=by
 intro a D A w em ok hm hA hB hw0
 subst em
 have hK2:=hK.more (B2:=(bx b5 [fn f cap]::B)) (λ x hx=>by simp[hx])
 refine enter Tryz.func173 Tryz.ntmps173 rfl rfl hw0 ?_
 simp only[bY]
 refine J0 ?_;refine aI (λ x3=>?_);refine aG ?_;refine J0 ?_;refine aB (kX b5 [fn f cap] 0 hB rfl) rfl ?_;refine aC (Rr hK2.1 (hK2.2 a.mm (Mm.Le.refl _)) ok hm hA hB) (λ x5 h5=>?_);refine bQ (fR λ _=>aS rf cK rf (bX _) dH rf hU) (λ _=>?_);refine aG ?_
 refine bC Tryz.results173 (λ w hw=>?_)
 exact⟨x5,rfl,h5,hw.rN⟩
theorem n0{Kt:Tr}{v r:Int}{s:Mm}{b4 b5:Nat}{nd:Nd}(hK:Xm b Kt s f cap B)(hv:v<=s.nodes.length)(he:(eC s.nodes v).exp=nd.exp)(hst:(eC s.nodes v).status=nd.status)(hd:nd.status<=9223372036854775807):pW b 172 [pt b4,pt b5] [.int .i64 r] (bx b4 (nd.cells:List Value)::bx b5 [fn f cap]::B) s (.node v λ n2=>.node v λ n3=>.kO n3.status 0 (if r=n2.exp then 1 else 2) λ _=>Kt):=by
 intro a D A w em ok hm hA hB hw0
 subst em
 refine enter Tryz.func172 Tryz.ntmps172 rfl rfl hw0 ?_
 simp only[bY]
 refine J0 ?_;refine aI (λ x4=>?_);refine aG ?_;refine cQ ?_;refine kK ?_;refine aE ?_;refine aB (kX b4 (nd.cells:List Value) 11 hB rfl) rfl ?_;refine tN ?_
 refine bE (λ c9=>?_) (λ c9=>?_)
 ·refine dW ?_;refine J1 ?_;refine J0 ?_;refine aE ?_;refine aB (kX b4 (nd.cells:List Value) 13 hB rfl) rfl ?_;refine aA ?_;(refine aB (cA (by(repeat (first|exact cC _|(apply bU;focus ((conv=>{lhs;whnf});try exact rfl))));done)) rfl ?_);refine aQ (cV (hc:=λ w1 hw=>uS _ _ _ _ _ w1)) (λ x14=>?_);refine bQ (fR λ _=>aS rf cK rf (bX _) dH rf hU) (λ _=>?_);refine aG ?_
  refine bC Tryz.results172 (λ w hw=>?_)
  refine⟨(vQ nd.status 0 1 _ _,[],a),rfl,⟨⟨hv,hv,?_⟩,ok,AS.gZ.refl a⟩,hw.rI⟩
  dsimp only
  rw[he,hst,if_pos (by omega)]
  exact⟨rfl,hd,by have:=ok.mo.two;omega,_,_,rfl,by kernel_rfl,λ o s1 l=>(Te (b5:=b5) (hK.le l) o).mr (λ y hy=>List.mem_cons_of_mem _ hy)⟩
 ·refine aZ ?_;refine J0 ?_;refine aE ?_;refine aB (kX b4 (nd.cells:List Value) 13 hB rfl) rfl ?_;refine aA ?_;(refine aB (cA (by(repeat (first|exact cC _|(apply bU;focus ((conv=>{lhs;whnf});try exact rfl))));done)) rfl ?_);refine aQ (cV (hc:=λ w1 hw=>uS _ _ _ _ _ w1)) (λ x14=>?_);refine bQ (fR λ _=>aS rf cK rf (bX _) dH rf hU) (λ _=>?_);refine aG ?_
  refine bC Tryz.results172 (λ w hw=>?_)
  refine⟨(vQ nd.status 0 2 _ _,[],a),rfl,⟨⟨hv,hv,?_⟩,ok,AS.gZ.refl a⟩,hw.rI⟩
  dsimp only
  rw[he,hst,if_neg (by omega)]
  exact⟨rfl,hd,by have:=ok.mo.two;omega,_,_,rfl,by kernel_rfl,λ o s1 l=>(Te (b5:=b5) (hK.le l) o).mr (λ y hy=>List.mem_cons_of_mem _ hy)⟩
theorem X3{Kt:Tr}{v:Int}{nd:Nd}(ht:t.root<=9223372036854775807)(hK:Xm b Kt a.mm f cap B)(hv:v<=a.mm.nodes.length)(ho:(eC a.mm.nodes v).bO=nd.bO)(he:(eC a.mm.nodes v).exp=nd.exp)(hst:(eC a.mm.nodes v).status=nd.status)(ok:a.Ok)(hm:a.mm.Small)(hA:∀f∈aM a.L,f∈A)(hB:∀x∈B,x∈A)(hs:SF w D [(b,fA a)] A [] (fQ a) w) :
  Calls Tryz.prog 138 #[.agg ⟨lS b t⟩,nd.v,fn f cap] w (zC b (λ c' s' B'=>iY b (qE t v Kt) a.mm c' s' B') a B D w):=by
 have hol:nd.bO<=a.mm.nodes.length:=by rw[<- ho];exact(ok.mo.at v).bO
 have hd:nd.status<=9223372036854775807:=by rw[<- hst];exact nD hm (ok.mo.at v).status
 have hT:∀x4 x5:Nat,zI b (λ r=>.node v λ n2=>.node v λ n3=>.kO n3.status 0 (if r=n2.exp then 1 else 2) λ _=>Kt) a.mm 172 [.pointer (some ⟨x4,0,none⟩),.pointer (some ⟨x5,0,none⟩)] (bx x5 [fn f cap]::bx x4 (nd.cells:List Value)::B):=λ x4 x5=>⟨by kernel_rfl,λ r s1 l hr=>(n0 (b4:=x4) (b5:=x5) (nd:=nd) (hK.le l) (by have:=l.len;omega) (by rw[l.nd hv];exact he) (by rw[l.nd hv];exact hst) hd).mr (λ y hy=>by
  simp only[List.mem_cons] at hy ⊢
  rcases hy with h|h|h<;>simp[h])⟩
 refine enter Tryz.func138 Tryz.ntmps138 rfl rfl hs ?_
 simp only[bY]
 simp only[Nd.v,Nd.cells]
 refine J0 ?_;refine bN (λ x3=>?_);refine bN (λ x4=>?_);refine bN (λ x5=>?_);refine aI (λ x6=>?_);refine aG ?_;refine oV ?_;refine J3 ?_;(refine aB (cA (by(repeat (first|exact cC _|(apply bU;focus ((conv=>{lhs;whnf});try exact rfl))));done)) rfl ?_);(refine aQ (bF.pre (λ w h=>(show SF _ _ [_,_,(b,fA a)] _ [(bx x5 [fn f cap]:Option Addr×List Value),bx x4 (nd.cells:List Value)] _ w from(h.cR (.tail (.tail .head))).cR (.tail .head))) (cM (V:=λ y:Cd×Fr×AS=>.agg ⟨y.1.cells⟩) (hs:=[(b,fA a)]) (os:=fQ a) (hs':=λ y=>[(b,fA y.2.2)]) (os':=λ y=>fQ y.2.2) (Fc:=λ y=>y.2.1) (A0:=bx x5 [fn f cap]::bx x4 (nd.cells:List Value)::A) (hA:=bA.ax) (hc:=λ w1 hw=>Ta ht (hT x4 x5) hol ok hm (λ f hf=>List.mem_cons_of_mem _ (List.mem_cons_of_mem _ (hA f hf))) (Fj hB) hw))) (λ x11=>?_);try (refine eX (λ h11=>?_)));refine bQ (fR λ _=>aS rf cK rf (bX _) dH rf hU) (λ _=>?_);refine aG ?_
 refine bC Tryz.results138 (λ w hw=>?_)
 refine⟨(x11.1,x11.2.1++[bx x5 [fn f cap],bx x4 (nd.cells:List Value)],x11.2.2),rfl,⟨⟨hv,?_⟩,h11.2.1,h11.2.2.more (λ f hf=>List.mem_append_left _ hf)⟩,hw.rI⟩
 dsimp only
 rw[ho,List.append_assoc]
 exact h11.1
end
end

/- root: Help. -/
section
open Go Go.RowKit Go.Ct
section
variable{D:List Nat}{A B:Fr}{a:AS}{b:Nat}{w:World}{f:FuncId}{cap:List Value}{t:fY}
theorem df{K:Int->Tr}{v x:Int}{s:Mm}{b1 b2 b3:Nat}(ht:t.root<=9223372036854775807)(hK:zI b K s f cap B)(hv:v<=s.nodes.length):pW b 147 [pt b1,pt b2,pt b3] [.int .i64 x] (bx b1 (lS b t)::bx b2 [iv v]::bx b3 [fn f cap]::B) s (oM t v x K):=by
 intro a D A w em ok hm hA hB hw0
 subst em
 have hK2:=hK.more (B2:=(bx b1 (lS b t)::bx b2 [iv v]::bx b3 [fn f cap]::B)) (λ x hx=>by simp[hx])
 refine enter Tryz.func147 Tryz.ntmps147 rfl rfl hw0 ?_
 simp only[bY]
 refine J0 ?_;refine aI (λ x5=>?_);refine aG ?_;refine J0 ?_;refine aB (Rm b1 (lS b t) 0 3 hB rfl rfl) rfl ?_;refine aB (kX b2 [.int .i64 v] 0 hB rfl) rfl ?_;refine aA ?_;refine aB (kX b3 [fn f cap] 0 hB rfl) rfl ?_;refine aC (zF (λ w1 hw=>qM ht hK2 hv ok hm hA hB hw)) (λ x10 h10=>?_);refine bQ (fR λ _=>aS rf cK rf (bX _) dH rf hU) (λ _=>?_);refine aG ?_
 refine bC Tryz.results147 (λ w hw=>?_)
 exact⟨x10,rfl,h10,hw.rN⟩
theorem Zk{K:Int->Tr}{v:Int}{s:Mm}{b0 b1 b2 b3:Nat}{nd:Nd}(ht:t.root<=9223372036854775807)(hK:zI b K s f cap B)(hv:v<=s.nodes.length)(hst:(eC s.nodes v).status=nd.status):pW b 146 [pt b0,pt b1,pt b2,pt b3] [] (bx b0 (nd.cells:List Value)::bx b1 (lS b t)::bx b2 [iv v]::bx b3 [fn f cap]::B) s (.node v λ n=>.load n.status λ s=>oM t v s K):=by
 intro a D A w em ok hm hA hB hw0
 subst em
 have hd:nd.status<=9223372036854775807:=by rw[<- hst];exact nD hm (ok.mo.at v).status
 refine enter Tryz.func146 Tryz.ntmps146 rfl rfl hw0 ?_
 simp only[bY]
 refine J0 ?_;refine aI (λ x4=>?_);refine aG ?_;refine J0 ?_;refine aE ?_;refine aB (kX b0 (nd.cells:List Value) 13 hB rfl) rfl ?_;(refine aB (cA (by(repeat (first|exact cC _|(apply bU;focus ((conv=>{lhs;whnf});try exact rfl))));done)) rfl ?_);refine aQ (cV (hc:=λ w1 hw=>nF _ _ _ w1)) (λ x8=>?_);refine bQ (fR λ _=>aS rf cK rf (bX _) dH rf hU) (λ _=>?_);refine aG ?_
 refine bC Tryz.results146 (λ w hw=>?_)
 refine⟨(mN nd.status _ _,[],a),rfl,⟨⟨hv,?_⟩,ok,AS.gZ.refl a⟩,hw.rI⟩
 dsimp only
 rw[hst]
 exact⟨rfl,hd,_,_,rfl,by kernel_rfl,λ x s1 l hx=>(df (b1:=b1) (b2:=b2) (b3:=b3) ht (hK.le l) (by have:=l.len;omega)).mr (λ y hy=>List.mem_cons_of_mem _ hy)⟩
theorem ef{K:Int->Tr}{v x:Int}{s:Mm}{b0 b1 b2 b3:Nat}{nd:Nd}(ht:t.root<=9223372036854775807)(hK:zI b K s f cap B)(hv:v<=s.nodes.length)(ho:(eC s.nodes v).bO=nd.bO)(he:(eC s.nodes v).exp=nd.exp)(hst:(eC s.nodes v).status=nd.status):pW b 145 [pt b1,pt b2,pt b3,pt b0] [.int .i64 x] (bx b1 (lS b t)::bx b2 [iv v]::bx b3 [fn f cap]::bx b0 (nd.cells:List Value)::B) s (if x=0 then qE t v (.node v λ n=>.load n.status λ s=>oM t v s K) else oM t v x K):=by
 intro a D A w em ok hm hA hB hw0
 subst em
 have hK2:=hK.more (B2:=(bx b1 (lS b t)::bx b2 [iv v]::bx b3 [fn f cap]::bx b0 (nd.cells:List Value)::B)) (λ x hx=>by simp[hx])
 have hT:Xm b (.node v λ n=>.load n.status λ s=>oM t v s K) a.mm 146 [.pointer (some ⟨b0,0,none⟩),.pointer (some ⟨b1,0,none⟩),.pointer (some ⟨b2,0,none⟩),.pointer (some ⟨b3,0,none⟩)] (bx b1 (lS b t)::bx b2 [iv v]::bx b3 [fn f cap]::bx b0 (nd.cells:List Value)::B):=⟨by kernel_rfl,λ s1 l=>(Zk (b0:=b0) (b1:=b1) (b2:=b2) (b3:=b3) (nd:=nd) ht (hK.le l) (by have:=l.len;omega) (by rw[l.nd hv];exact hst)).mr (λ y hy=>by
  simp only[List.mem_cons] at hy ⊢
  rcases hy with h|h|h|h|h<;>simp[h])⟩
 refine enter Tryz.func145 Tryz.ntmps145 rfl rfl hw0 ?_
 simp only[bY]
 refine J0 ?_;refine aI (λ x6=>?_);refine aG ?_;refine kK ?_;refine pJ ?_;refine aG ?_
 refine bE (λ c8=>?_) (λ c8=>?_)
 ·refine J0 ?_;refine aB (Rm b1 (lS b t) 0 3 hB rfl rfl) rfl ?_;refine aB (kX b2 [.int .i64 v] 0 hB rfl) rfl ?_;refine aA ?_;refine aB (kX b3 [fn f cap] 0 hB rfl) rfl ?_;refine aC (zF (λ w1 hw=>qM ht hK2 hv ok hm hA hB hw)) (λ x13 h13=>?_);refine bQ (fR λ _=>aS rf cK rf (bX _) dH rf hU) (λ _=>?_);refine aG ?_
  refine bC Tryz.results145 (λ w hw=>?_)
  refine⟨x13,rfl,⟨?_,h13.2⟩,hw.rN⟩
  rw[if_neg (by omega)]
  exact h13.1
 ·refine aZ ?_;refine J0 ?_;refine aB (Rm b1 (lS b t) 0 3 hB rfl rfl) rfl ?_;refine aB (Rm b0 (nd.cells:List Value) 0 14 hB rfl rfl) rfl ?_;(refine aB (cA (by(repeat (first|exact cC _|(apply bU;focus ((conv=>{lhs;whnf});try exact rfl))));done)) rfl ?_);refine aC (zF (λ w1 hw=>X3 (nd:=nd) ht hT hv ho he hst ok hm hA hB hw)) (λ x17 h17=>?_);refine bQ (fR λ _=>aS rf cK rf (bX _) dH rf hU) (λ _=>?_);refine aG ?_
  refine bC Tryz.results145 (λ w hw=>?_)
  refine⟨x17,rfl,⟨?_,h17.2⟩,hw.rN⟩
  rw[if_pos (by omega)]
  exact h17.1
theorem jn{K:Int->Tr}{v:Int}{s:Mm}{b1 b3:Nat}(ht:t.root<=9223372036854775807)(hK:zI b K s f cap B)(hv:v<=s.nodes.length):pW b 144 [pt b1,pt b3] [.int .i64 v] (bx b1 (lS b t)::bx b3 [fn f cap]::B) s (.node v λ n=>if n.kind=2 then K v else .node v λ n=>.load n.status λ s=>if s=0 then qE t v (.node v λ n=>.load n.status λ s=>oM t v s K) else oM t v s K):=by
 intro a D A w em ok hm hA hB hw0
 subst em
 have hK2:=hK.more (B2:=(bx b1 (lS b t)::bx b3 [fn f cap]::B)) (λ x hx=>by simp[hx])
 have nv:=zU ok v
 refine enter Tryz.func144 Tryz.ntmps144 rfl rfl hw0 ?_
 simp only[bY]
 refine J0 ?_;refine bN (λ x3=>?_);refine aI (λ x4=>?_);refine aG ?_;refine J0 ?_;refine aE ?_;refine aB (kX b1 (lS b t) 0 hB rfl) rfl ?_;refine bR ?_;refine aC (B5 v ok hm hA hv) (λ x9 h9=>?_);refine aI (λ x5=>?_);refine J5 ?_;refine Ci ?_;refine tN ?_
 refine bE (λ c12=>?_) (λ c12=>?_)
 ·refine J0 ?_;refine aB (kX b3 [fn f cap] 0 hB rfl) rfl ?_;refine bR ?_;refine aC (Rr hK2.1 (hK2.2 v a.mm (Mm.Le.refl _) hv) ok hm hA hB) (λ x15 h15=>?_);refine bQ (fR λ _=>aS rf cK rf (bX _) dH rf hU) (λ _=>?_);refine aG ?_
  refine bC Tryz.results144 (λ w hw=>?_)
  refine⟨x15,rfl,⟨⟨hv,?_⟩,h15.2⟩,hw.rN⟩
  rw[fU]
  dsimp only
  rw[if_pos (by assumption)]
  exact h15.1
 ·refine aZ ?_;refine hJ ?_;(refine aB (cA (by(repeat (first|exact cC _|(apply bU;focus ((conv=>{lhs;whnf});try exact rfl))));done)) rfl ?_);refine aQ (cV (hc:=λ w1 hw=>nF _ _ _ w1)) (λ x19=>?_);refine bQ (fR λ _=>aS rf cK rf (bX _) dH rf hU) (λ _=>?_);refine aG ?_
  refine bC Tryz.results144 (λ w hw=>?_)
  refine⟨(mN (aD (cB a.L) v).nd.status _ _,[bx x5 (((aD (cB a.L) v).at_ x9.1 x9.2).nd.cells:List Value),bx x3 [iv v]],a),rfl,⟨⟨hv,?_⟩,ok,(AS.gZ.refl a).more (λ _ h=>(List.not_mem_nil h).elim)⟩,?_⟩
  ·rw[fU]
   dsimp only
   rw[if_neg (by assumption)]
   refine⟨hv,?_⟩
   rw[fU]
   refine⟨rfl,nD hm nv.status,_,_,rfl,by kernel_rfl,λ x s1 l hx=>?_⟩
   have hlen:=l.len
   exact(ef (b0:=x5) (b1:=b1) (b2:=x3) (b3:=b3) (nd:=((aD (cB a.L) v).at_ x9.1 x9.2).nd) ht (hK.le l) (by omega) (by rw[l.nd hv,fU];rfl) (by rw[l.nd hv,fU];rfl) (by rw[l.nd hv,fU];rfl)).mr (λ y hy=>by
   simp only[List.mem_cons,List.append_eq,List.nil_append,List.mem_append,List.not_mem_nil,or_false] at hy ⊢
   rcases hy with h|h|h|h|h<;>simp[h])
  ·exact((hw.cR (.tail (.tail .head))).cR .head).rI
theorem nh{K:Int->Tr}(ht:t.root<=9223372036854775807)(hK:zI b K a.mm f cap B)(ok:a.Ok)(hm:a.mm.Small)(hA:∀f∈aM a.L,f∈A)(hB:∀x∈B,x∈A)(hs:SF w D [(b,fA a)] A [] (fQ a) w) :
  Calls Tryz.prog 102 #[.agg ⟨lS b t⟩,fn f cap] w (zC b (λ c' s' B'=>iY b (lI t K) a.mm c' s' B') a B D w):=by
 refine enter Tryz.func102 Tryz.ntmps102 rfl rfl hs ?_
 simp only[bY]
 refine J0 ?_;refine bN (λ x2=>?_);refine bN (λ x3=>?_);refine aI (λ x4=>?_);refine aG ?_;refine J0 ?_;refine aE ?_;refine J3 ?_;(refine aB (cA (by(repeat (first|exact cC _|(apply bU;focus ((conv=>{lhs;whnf});try exact rfl))));done)) rfl ?_);refine aQ (cV (hc:=λ w1 hw=>nF _ _ _ w1)) (λ x9=>?_);refine bQ (fR λ _=>aS rf cK rf (bX _) dH rf hU) (λ _=>?_);refine aG ?_
 refine bC Tryz.results102 (λ w hw=>?_)
 refine⟨(mN t.root _ _,[bx x2 (lS b t),bx x3 [fn f cap]],a),rfl,⟨⟨rfl,ht,_,_,rfl,by kernel_rfl,λ v s1 l hv=>jn (b1:=x2) (b3:=x3) ht (hK.le l) hv⟩,ok,(AS.gZ.refl a).more (λ _ h=>(List.not_mem_nil h).elim)⟩,?_⟩
 exact((hw.cR (.tail .head)).cR (.tail .head)).rI
end
end

/- Tries of worlds: a cell is set; nodes and cells are added. -/
section
open Go.Ct
section
variable{H:ByteArray->Nat}{σ τ υ:Kw}{r:Int}{w:List Nat}
theorem mV{cs:List Int}{c o v:Int}(h:kF cs c o)(c':Int):cZ (eJ cs c o v) c'=if c'=c then v else cZ cs c':=by
 have hl:=gT (cs:=cs) (c:=c) (bO:=o) (new:=v)
 obtain⟨h1,h2,h3⟩:=h
 have e:eJ cs c o v=cs.set (c-1).toNat v:=if_pos ⟨h1,h2,h3⟩
 unfold cZ
 rw[hl]
 by_cases hc:1<=c'/\c'<=cs.length
 ·rw[if_pos hc,if_pos hc,e]
  by_cases e2:c'=c
  ·subst e2
   rw[if_pos rfl]
   rw[kP,List.getElem?_set,if_pos rfl,if_pos (by omega)]
   rfl
  ·rw[if_neg e2]
   rw[kP,List.getElem?_set,if_neg (by omega),kP]
 ·rw[if_neg hc,if_neg hc,if_neg (by omega)]
theorem Am{cs:List Int}{c o:Int}(h:kF cs c o):cZ cs c=o:=by
 obtain⟨h1,h2,h3⟩:=h
 unfold cZ
 rw[if_pos ⟨h1,h2⟩,h3]
theorem yJ.in(h:yJ σ r w):1<=r/\r<=σ.len:=fD (by rw[h.1];decide)
theorem qR.in{g:Int}(h:qR σ r w g):1<=r/\r<=σ.len:=jT h.1
theorem Inv.rE(i:Inv H σ){m:Int}(h:dY (σ.nd m)):1<=(σ.nd m).prev/\(σ.nd m).prev<=σ.cl/\σ.ct (σ.nd m).prev=.prev m:=by
 have hr:=jT h
 have hn:=i.nd m hr.1 hr.2
 have hb:=hn.bd.prev
 rcases h with h|h|h
 ·have:=hn.k3 h;exact⟨this.2.2.2.1,hb,this.2.2.2.2⟩
 ·have:=hn.k5 h;exact⟨this.2.2.2.2.1,hb,this.2.2.2.2.2⟩
 ·have:=hn.k6 h;exact⟨this.2.2.2.1,hb,this.2.2.2.2⟩
theorem Inv.Ap(i:Inv H σ){r:Int}(h:(σ.nd r).kind=2):1<=(σ.nd r).main/\(σ.nd r).main<=σ.cl/\σ.ct (σ.nd r).main=.main r:=by
 have hr:=fD (N:=σ.mm.nodes) (i:=r) (by rw[h];decide)
 have hn:=i.nd r hr.1 hr.2
 exact⟨(hn.k2 h).2.1,hn.bd.main,(hn.k2 h).2.2⟩
theorem yJ.up(h:yJ σ r w)(l:Le σ τ):yJ τ r w:=by
 have hr:=h.in
 exact⟨by rw[l.nd hr.2];exact h.1,by rw[l.way r hr.2];exact h.2⟩
theorem qR.up{g:Int}(h:qR σ r w g)(l:Le σ τ):qR τ r w g:=by
 have hr:=h.in
 exact⟨by rw[l.nd hr.2];exact h.1,by rw[l.way r hr.2];exact h.2.1,by rw[l.gb r hr.2];exact h.2.2⟩
theorem qR.le{g g':Int}(h:qR σ r w g)(hg:g<=g'):qR σ r w g':=⟨h.1,h.2.1,Int.le_trans h.2.2 hg⟩
theorem dS.up(i:Inv H σ)(hm:dY (σ.nd r))(h:dS σ r)(l:Le σ τ):dS τ r:=by
 have hc:=i.rE hm
 unfold dS
 rw[l.nd (jT hm).2,l.done _ r hc.1 hc.2.1 hc.2.2 (by rw[h];exact kM (.inl (xB _)))]
 exact h
theorem ma.same{c:Int}(h:ma σ c)(hm:υ.mm.nodes=σ.mm.nodes)(hw:υ.way=σ.way)(hg:υ.gb=σ.gb)(hct:υ.ct=σ.ct)(hc:υ.ce c=σ.ce c)(hs:∀p,dY (σ.nd p)->dS σ p->dS υ p):ma υ c:=by
 have hl:υ.len=σ.len:=by simp only[Kw.len,hm]
 have hn:∀r,υ.nd r=σ.nd r:=λ r=>by simp only[Kw.nd,hm]
 have hM:∀p w g,qR σ p w g->qR υ p w g:=λ p w g h=>⟨by rw[hn];exact h.1,by rw[hw];exact h.2.1,by rw[hg];exact h.2.2⟩
 have hP:∀m p,qA σ m p->qA υ m p:=λ m p h=>⟨by rw[hw,hg];exact hM _ _ _ h.1,hs p h.1.1 h.2⟩
 refine⟨by rw[hc];exact h.lo,by rw[hc,hl];exact h.hi,λ i e=>?_,λ m e=>?_,λ d e=>?_,λ e=>?_,λ e=>?_⟩
 ·rw[hc,hw,hn]
  obtain⟨h0,h1⟩:=h.main i (by rw[<- hct];exact e)
  exact⟨h0,hM _ _ _ h1⟩
 ·rw[hc,hn,hn]
  obtain⟨h0,h⟩:=h.prev m (by rw[<- hct];exact e)
  refine⟨h0,?_⟩
  rcases h with h1|h1|⟨h1,h2⟩
  ·exact .inl h1
  ·exact .inr (.inl (hP _ _ h1))
  ·exact .inr (.inr ⟨h1,hP _ _ h2⟩)
 ·rw[hc];exact h.stat d (by rw[<- hct];exact e)
 ·rw[hc,hn]
  rcases h.root (by rw[<- hct];exact e) with h1|h1
  ·exact .inl ⟨by rw[hn];exact h1.1,by rw[hw];exact h1.2⟩
  ·exact .inr h1
 ·rw[hc]
  have h1:=h.rort (by rw[<- hct];exact e)
  exact⟨by rw[hn];exact h1.1,by rw[hw];exact h1.2⟩
theorem fZ.kO{N:List Nv}{cs:List Int}{gen c o v:Int}(h:fZ N cs gen)(lo:0<=v)(hi:v<=N.length):fZ N (eJ cs c o v) gen:=by
 unfold eJ
 split
 ·refine⟨h.two,h.gen0,h.m0,h.m1,λ i hi'=>?_,h.nodes,by rw[List.length_set];exact h.marks⟩
  rw[List.length_set] at hi'
  rw[kP,List.getElem?_set]
  split
  ·rw[if_pos (by omega)]
   exact⟨lo,by rw[List.length_map];exact hi⟩
  ·rw[<- kP]
   exact h.cells i hi'
 ·exact h
structure Ui(σ:Kw)(c o v:Int):Prop where
 lo:0<=v
 hi:v<=σ.len
 main:∀i,σ.ct c=.main i->qR σ v (σ.way i) (σ.nd i).gen
 prev:∀m,σ.ct c=.prev m->dY (σ.nd o)/\(v=0∨((σ.nd v).kind=7/\(σ.nd v).bO=o))
 stat:∀d,σ.ct c=.stat d->v=0∨v=1∨v=2
 root:σ.ct c=.root->yJ σ v []∨(σ.nd v).kind=8
 rort:σ.ct c=.rort->yJ σ v []
theorem y8{c o v:Int}(i:Inv H σ)(hk:kF σ.mm.cs c o)(hs:Ui σ c o v):∃υ,Le σ υ/\Inv H υ/\υ.mm=⟨σ.mm.nodes,eJ σ.mm.cs c o v,σ.mm.gen⟩/\υ.ce c=v:=by
 refine⟨⟨⟨σ.mm.nodes,eJ σ.mm.cs c o v,σ.mm.gen⟩,σ.way,σ.gb,σ.ct⟩,?_,?_,rfl,by show cZ (eJ _ _ _ _) c=v;rw[mV hk,if_pos rfl]⟩
 ·refine⟨⟨[],by simp⟩,by simp only[Kw.cl,gT];exact Nat.le_refl _,Int.le_refl _,λ _ _=>rfl,λ _ _=>rfl,λ _ _=>rfl,λ c' m h1 hc e hm=>?_,λ c' m h1 hc e hm=>?_⟩
  ·show cZ (eJ _ _ _ _) c'=_
   rw[mV hk]
   split
   ·rename_i e2
    subst e2
    exact absurd (by rw[show σ.ce c'=o from Am hk];exact(hs.prev m e).1) hm
   ·rfl
  ·show cZ (eJ _ _ _ _) c'=_∨cZ (eJ _ _ _ _) c'=_∨_
   rw[mV hk]
   split
   ·rename_i e2
    subst e2
    have e3:σ.ce c'=o:=Am hk
    rcases(hs.prev m e).2 with h|h
    ·exact .inr (.inl h)
    ·refine .inr (.inr ?_)
     show(eC σ.mm.nodes (cZ (eJ _ _ _ _) c')).kind=7/\(eC σ.mm.nodes (cZ (eJ _ _ _ _) c')).bO=_
     rw[mV hk,if_pos rfl,e3]
     exact h
   ·exact .inl rfl
 ·have hcl:(eJ σ.mm.cs c o v).length=σ.cl:=gT
  refine⟨i.two,i.m1,i.m2,i.gen,fZ.kO i.prop hs.lo hs.hi,λ r h1 h2=>?_,λ c' h1 h2=>?_⟩
  ·have h:=i.nd r h1 h2
   exact⟨h.valid,h.gen,by simp only[Kw.cl,hcl];exact h.bd,h.k2,h.k3,h.k4,h.k5,h.k6,h.k7,h.k8⟩
  ·simp only[Kw.cl,hcl] at h2
   have hset:∀p,dY (σ.nd p)->dS σ p->cZ (eJ σ.mm.cs c o v) (σ.nd p).prev=0:=λ p hm hp=>by
    rw[mV hk]
    split
    ·rename_i e
     have hc:=(i.rE hm).2.2
     rw[e] at hc
     have h0:σ.ce (σ.nd p).prev=0:=hp
     rw[e,show σ.ce c=o from Am hk] at h0
     have:=(hs.prev p hc).1
     rw[h0] at this
     exact absurd this (kM (.inl (xB _)))
    ·exact hp
   by_cases e:c'=c
   ·subst e
    have e2:cZ (eJ σ.mm.cs c' o v) c'=v:=by rw[mV hk,if_pos rfl]
    have e3:σ.ce c'=o:=Am hk
    refine⟨by simp only[Kw.ce,e2];exact hs.lo,by simp only[Kw.ce,e2];exact hs.hi,λ i' h=>?_,λ m h=>?_,λ d h=>?_,λ h=>?_,λ h=>?_⟩
    ·simp only[Kw.ce,e2];exact⟨((i.ce c' h1 h2).main i' h).1,hs.main i' h⟩
    ·simp only[Kw.ce,e2]
     have hp:=hs.prev m h
     have hold:qA σ m o:=by
      rcases((i.ce c' h1 h2).prev m h).2 with h3|h3|h3
      ·rw[e3] at h3;rw[h3] at hp;exact absurd hp.1 (kM (.inl (xB _)))
      ·rwa [e3] at h3
      ·rw[e3] at h3;exact absurd hp.1 (kM (.inr (.inl h3.1)))
     refine⟨((i.ce c' h1 h2).prev m h).1,?_⟩
     rcases hp.2 with h3|⟨h3,h4⟩
     ·exact .inl h3
     ·refine .inr (.inr ⟨h3,?_⟩)
      show qA _ m (σ.nd v).bO
      rw[h4]
      exact⟨hold.1,hset _ hp.1 hold.2⟩
    ·simp only[Kw.ce,e2];exact hs.stat d h
    ·simp only[Kw.ce,e2];exact hs.root h
    ·simp only[Kw.ce,e2];exact hs.rort h
   ·exact(i.ce c' h1 h2).same rfl rfl rfl rfl (by show cZ (eJ _ _ _ _) c'=_;rw[mV hk,if_neg e]) hset
structure Ext(σ υ:Kw):Prop where
 nodes:∃N,υ.mm.nodes=σ.mm.nodes++N
 cs:∃C,υ.mm.cs=σ.mm.cs++C
 gen:σ.mm.gen<=υ.mm.gen
 way:∀r:Int,r<=σ.len->υ.way r=σ.way r
 gb:∀r:Int,r<=σ.len->υ.gb r=σ.gb r
 ct:∀c:Int,c<=σ.cl->υ.ct c=σ.ct c
theorem W3{cs C:List Int}{c:Int}(h:c<=cs.length):cZ (cs++C) c=cZ cs c:=by
 unfold cZ
 by_cases h1:1<=c
 ·rw[if_pos ⟨h1,by simp;omega⟩,if_pos ⟨h1,h⟩,kP,kP,List.getElem?_append_left (by omega)]
 ·rw[if_neg (by omega),if_neg (by omega)]
theorem Ext.ce(e:Ext σ υ){c:Int}(h:c<=σ.cl):υ.ce c=σ.ce c:=by obtain⟨C,h2⟩:=e.cs;simp only[Kw.ce,h2];exact W3 h
theorem Ext.cl(e:Ext σ υ):σ.cl<=υ.cl:=by obtain⟨C,h2⟩:=e.cs;simp only[Kw.cl,h2,List.length_append];omega
theorem Ext.le(e:Ext σ υ):Le σ υ:=⟨e.nodes,e.cl,e.gen,e.way,e.gb,e.ct,λ _ _ _ h _ _=>e.ce h,λ _ _ _ h _ _=>.inl (e.ce h)⟩
theorem Kg.up{g b:Int}(h:Kg σ w g b)(l:Le σ υ):Kg υ w g b:=by
 rcases h with h|h
 ·have hr:=fD (N:=σ.mm.nodes) (i:=b) (by rw[h.1];decide)
  exact .inl (by rw[l.nd hr.2];exact h)
 ·have hr:=fD (N:=σ.mm.nodes) (i:=b) (by rw[h.1];decide)
  exact .inr (by rw[l.nd hr.2,l.way b hr.2];exact h)
theorem yf.ext(h:yf H σ r)(hr:r<=σ.len)(e:Ext σ υ):yf H υ r:=by
 have l:=e.le
 have hn:=l.nd hr
 have hw:=l.way r hr
 have hk:∀b,(σ.nd b).kind=2->(υ.nd b).kind=2:=λ b hb=>by rw[l.nd (fD (N:=σ.mm.nodes) (i:=b) (by rw[hb];decide)).2];exact hb
 refine⟨by rw[hn];exact h.valid,by rw[hn];have:=h.gen;have:=e.gen;omega,by rw[hn];exact h.bd.mono l.len l.cl,λ k=>?_,λ k=>?_,λ k=>?_,λ k=>?_,λ k=>?_,λ k=>?_,λ k=>?_⟩<;>rw[hn] at k ⊢
 ·obtain⟨h1,h2,h3⟩:=h.k2 k
  exact⟨by rw[hw];exact h1,h2,by rw[l.ct _ h.bd.main];exact h3⟩
 ·obtain⟨h1,h2,h3,h4,h5⟩:=h.k3 k
  rw[hw]
  refine⟨h1,λ k' b hb=>by rw[l.gb r hr];exact(h2 k' b hb).up l,λ h0=>⟨(h3 h0).1,λ b hb=>hk b ((h3 h0).2 b hb)⟩,h4,by rw[l.ct _ h.bd.prev];exact h5⟩
 ·exact h.k4 k
 ·rw[hw,l.ct _ h.bd.prev];exact h.k5 k
 ·rw[hw,l.ct _ h.bd.prev];exact h.k6 k
 ·have:=h.k7 k
  rw[l.nd (jT this).2];exact this
 ·obtain⟨h1,h2,h3,h4⟩:=h.k8 k
  exact⟨h1.up l,h2.up l,h3,by rw[l.ct _ h.bd.status];exact h4⟩
theorem ma.ext{c:Int}(i:Inv H σ)(h:ma σ c)(hc:c<=σ.cl)(e:Ext σ υ):ma υ c:=by
 have l:=e.le
 have hv:=e.ce hc
 have hP:∀m p:Int,m<=σ.len->qA σ m p->qA υ m p:=λ m p hm hp=>⟨by rw[l.way m hm,l.gb m hm];exact hp.1.up l,dS.up i hp.1.1 hp.2 l⟩
 refine⟨by rw[hv];exact h.lo,by rw[hv];have:=h.hi;have:=l.len;omega,λ i' k=>?_,λ m k=>?_,λ d k=>?_,λ k=>?_,λ k=>?_⟩<;>rw[l.ct c hc] at k<;>rw[hv]
 ·obtain⟨h1,h2⟩:=h.main i' k
  have hr:=fD (N:=σ.mm.nodes) (i:=i') (by rw[h1];decide)
  rw[l.nd hr.2,l.way i' hr.2]
  exact⟨h1,h2.up l⟩
 ·obtain⟨h1,h2⟩:=h.prev m k
  have hr:=jT h1
  rw[l.nd hr.2]
  refine⟨h1,?_⟩
  rcases h2 with h2|h2|⟨h2,h3⟩
  ·exact .inl h2
  ·exact .inr (.inl (hP m _ hr.2 h2))
  ·refine .inr (.inr ?_)
   rw[l.nd h.hi]
   exact⟨h2,hP m _ hr.2 h3⟩
 ·exact h.stat d k
 ·rcases h.root k with h1|h1
  ·exact .inl (h1.up l)
  ·exact .inr (by rw[l.nd h.hi];exact h1)
 ·exact(h.rort k).up l
theorem Kz(i:Inv H σ)(e:Ext σ υ)(hp:fZ υ.mm.nodes υ.mm.cs υ.mm.gen)(hn:∀r:Int,σ.len<r->r<=υ.len->yf H υ r)(hc:∀c:Int,σ.cl<c->c<=υ.cl->ma υ c):Inv H υ:=by
 have l:=e.le
 refine⟨Nat.le_trans i.two l.len,by rw[l.nd (by have:=i.two;omega)];exact i.m1,by rw[l.nd (by have:=i.two;omega)];exact i.m2,Int.le_trans i.gen e.gen,hp,λ r h1 h2=>?_,λ c h1 h2=>?_⟩
 ·rcases Int.lt_or_le σ.len r with h|h
  ·exact hn r h h2
  ·exact(i.nd r h1 h).ext h e
 ·rcases Int.lt_or_le σ.cl c with h|h
  ·exact hc c h h2
  ·exact ma.ext i (i.ce c h1 h) h e
def Kw.add(σ:Kw)(n:Nv)(i:Int)(w:List Nat)(g:Int)(t:CT):Kw :=
 ⟨σ.mm.push n i,λ r=>if r<=σ.len then σ.way r else w,λ r=>if r<=σ.len then σ.gb r else g,λ c=>if c<=σ.cl then σ.ct c else t⟩
theorem Ux(σ:Kw)(n:Nv)(i:Int)(w:List Nat)(g:Int)(t:CT):Ext σ (σ.add n i w g t) :=
 ⟨⟨_,rfl⟩,by unfold Kw.add Mm.push gF;dsimp only;split;exact⟨_,rfl⟩;exact⟨[],by simp⟩,Int.le_refl _,λ r hr=>if_pos hr,λ r hr=>if_pos hr,λ c hc=>if_pos hc⟩
theorem Vo(σ:Kw)(n:Nv)(i:Int)(w:List Nat)(g:Int)(t:CT):(σ.add n i w g t).len=σ.len+1:=by simp[Kw.len,Kw.add,Mm.push]
theorem yp(σ:Kw)(n:Nv)(i:Int)(w:List Nat)(g:Int)(t:CT):(σ.add n i w g t).nd ((σ.len+1:Nat):Int)=dJ n σ.cl:=by
 simp only[Kw.nd,Kw.add,Mm.push,eC,List.length_append,List.length_cons,List.length_nil]
 rw[if_pos ⟨by omega,by simp only[Kw.len];omega⟩]
 have e:(((σ.len+1:Nat):Int)-1).toNat=σ.mm.nodes.length:=by simp only[Kw.len];omega
 rw[e]
 simp[kP]
theorem oc(σ:Kw)(n:Nv)(i:Int)(w:List Nat)(g:Int)(t:CT):(σ.add n i w g t).way ((σ.len+1:Nat):Int)=w:=if_neg (by omega)
theorem vu(σ:Kw)(n:Nv)(i:Int)(w:List Nat)(g:Int)(t:CT):(σ.add n i w g t).gb ((σ.len+1:Nat):Int)=g:=if_neg (by omega)
theorem xw(σ:Kw)(n:Nv)(i:Int)(w:List Nat)(g:Int)(t:CT):(σ.add n i w g t).ct ((σ.cl+1:Nat):Int)=t:=if_neg (by omega)
theorem vk(σ:Kw){n:Nv}(i:Int)(w:List Nat)(g:Int)(t:CT)(h:n.kind=2∨n.kind=3∨n.kind=5∨n.kind=6∨n.kind=8):(σ.add n i w g t).cl=σ.cl+1/\(σ.add n i w g t).ce ((σ.cl+1:Nat):Int)=i:=by
 have e:(σ.add n i w g t).mm.cs=σ.mm.cs++[i]:=by simp only[Kw.add,Mm.push,gF];exact if_pos h
 refine⟨by simp[Kw.cl,e],?_⟩
 simp only[Kw.ce,e,cZ,List.length_append,List.length_cons,List.length_nil]
 rw[if_pos ⟨by omega,by simp only[Kw.cl];omega⟩]
 have e2:(((σ.cl+1:Nat):Int)-1).toNat=σ.mm.cs.length:=by simp only[Kw.cl];omega
 rw[e2]
 simp[kP]
theorem qd(σ:Kw){n:Nv}(i:Int)(w:List Nat)(g:Int)(t:CT)(h:¬(n.kind=2∨n.kind=3∨n.kind=5∨n.kind=6∨n.kind=8)):(σ.add n i w g t).cl=σ.cl:=by
 have e:(σ.add n i w g t).mm.cs=σ.mm.cs:=by simp only[Kw.add,Mm.push,gF];exact if_neg h
 simp[Kw.cl,e]
theorem ov{n:Nv}{i:Int}{g:Int}{t:CT}(h:Inv H σ)(hok:nU σ.mm.gen (σ.len+1) (dJ n σ.cl).dv)(hi:Hn i σ.len)(hn:yf H (σ.add n i w g t) ((σ.len+1:Nat):Int))(hc:(σ.add n i w g t).cl=σ.cl+1->ma (σ.add n i w g t) ((σ.cl+1:Nat):Int))(hcl:(σ.add n i w g t).cl<=σ.cl+1):Inv H (σ.add n i w g t):=by
 refine Kz h (Ux σ n i w g t) (fZ.push h.prop hok hi) (λ r h1 h2=>?_) (λ c h1 h2=>?_)
 ·rw[Vo] at h2
  rw[show r=((σ.len+1:Nat):Int) by omega];exact hn
 ·rw[show c=((σ.cl+1:Nat):Int) by omega];exact hc (by omega)
end
end

end Go.Proofs.YtbajmaoegmbfgaaGreat
