/- gcas: Read, Swap. -/
import Derived.Test.YtbajmaoegmbfgaaGreatGGc3
import Derived.Test.YtbajmaoegmbfgaaGreatGWo1

set_option linter.unusedSimpArgs false
set_option linter.unusedVariables false
namespace Go.Proofs.YtbajmaoegmbfgaaGreat
section
open Go Go.RowKit Go.Ct
section
variable{D:List Nat}{A B:Fr}{a:AS}{b:Nat}{w:World}{f:FuncId}{cap:List Value}{t:fY}
theorem je{K:Int->Tr}{i m:Int}{s:Mm}{bt bo bi:Nat}(ht:t.root<=9223372036854775807)(hK:Du b K s f cap B)(hi:i<=s.nodes.length)(hmm:m<=s.nodes.length):rB b 131 [pt bo,pt bi,pt bt] [.int .i64 m] (bx bo (lC b t)::bx bi [iv i]::bx bt [fn f cap]::B) s (rX t i m K):=by
 intro a D A w em ok hm hA hB hw0
 subst em
 have hK2:=hK.more (B2:=(bx bo (lC b t)::bx bi [iv i]::bx bt [fn f cap]::B)) (λ x hx=>by simp[hx])
 refine enter Tryz.func131 Tryz.ntmps131 rfl rfl hw0 ?_
 simp only[bW]
 refine J0 ?_;refine aJ (λ x5=>?_);refine aH ?_;refine J0 ?_;refine aB (Yb bo (lC b t) 0 3 hB rfl rfl) rfl ?_;refine aB (oL bi [.int .i64 i] 0 hB rfl) rfl ?_;refine aA ?_;refine aB (oL bt [fn f cap] 0 hB rfl) rfl ?_;refine aC (L0 (λ w1 hw=>Xn ht hK2 hi hmm ok hm hA hB hw)) (λ x10 h10=>?_);refine cG (hY λ _=>bF rf cN rf (dA _) dV rf jP) (λ _=>?_);refine aH ?_
 refine aZ Tryz.results131 (λ w hw=>?_)
 exact⟨x10,rfl,h10,hw.rN⟩
theorem qk{K:Int->Tr}{i:Int}(ht:t.root<=9223372036854775807)(hK:Du b K a.mm f cap B)(hi:i<=a.mm.nodes.length)(ok:a.Ok)(hm:a.mm.Small)(hA:∀f∈aL a.L,f∈A)(hB:∀x∈B,x∈A)(hs:SF w D [(b,eN a)] A [] (eS a) w) :
  Calls Tryz.prog 88 #[.agg ⟨lC b t⟩,.int .i64 i,fn f cap] w (Bh b (λ c' s' B'=>kD b (nF t i K) a.mm c' s' B') a B D w):=by
 have ni:=Hs ok i
 refine enter Tryz.func88 Tryz.ntmps88 rfl rfl hs ?_
 simp only[bW]
 refine J0 ?_;refine bL (λ x3=>?_);refine bL (λ x4=>?_);refine bL (λ x5=>?_);refine aJ (λ x6=>?_);refine aH ?_;refine gI ?_;refine bO ?_;refine aC (Ka i ok hm hA hi) (λ x10 h10=>?_);refine bZ ?_;(refine aB (cJ (by(repeat (first|exact cL _|(apply bX;focus ((conv=>{lhs;whnf});try exact rfl))));done)) rfl ?_);refine aR (cV (hc:=λ w1 hw=>sP _ _ _ w1)) (λ x13=>?_);refine cG (hY λ _=>bF rf cN rf (dA _) dV rf jP) (λ _=>?_);refine aH ?_
 refine aZ Tryz.results88 (λ w hw=>?_)
 refine⟨(qK (aD (cY a.L) i).nd.main _ _,[bx x3 (lC b t),bx x4 [iv i],bx x5 [fn f cap]],a),rfl,⟨⟨hi,?_⟩,ok,(AS.iV.refl a).more (λ _ h=>(List.not_mem_nil h).elim)⟩,?_⟩
 ·rw[kB]
  exact⟨rfl,nZ hm ni.main,_,_,rfl,by kernel_rfl,λ m s1 l hmm=>je (bo:=x3) (bi:=x4) (bt:=x5) ht (hK.le l) (by have:=l.len;omega) hmm⟩
 ·exact(((hw.dD (.tail .head)).dD (.tail .head)).dD (.tail .head)).rI
end
end

/- root: decide. -/
end Go.Proofs.YtbajmaoegmbfgaaGreat
namespace Go.Ct
section
open Go Go.RowKit
theorem bE.pre{P:Program}{S:List (Nat×Value)}{G G2:World->Prop}{o:Oper}{X:Type}{V:X->Value}{G':X->World->Prop}(h:∀w,G w->G2 w)(hl:bE P S G2 o X V G'):bE P S G o X V G':=⟨λ w hw=>hl.run w (h w hw)⟩
end
end Go.Ct
namespace Go.Proofs.YtbajmaoegmbfgaaGreat
section
open Go Go.RowKit Go.Ct
section
variable{D:List Nat}{A B:Fr}{a:AS}{b:Nat}{w:World}{f:FuncId}{cap:List Value}{t:fY}
theorem Uc{Kt:Tr}{s:Mm}{b5:Nat}(hK:Xr b Kt s f cap B)(o:Bool):rB b 173 [pt b5] [.bool o] (bx b5 [fn f cap]::B) s (Kt):=by
 intro a D A w em ok hm hA hB hw0
 subst em
 have hK2:=hK.more (B2:=(bx b5 [fn f cap]::B)) (λ x hx=>by simp[hx])
 refine enter Tryz.func173 Tryz.ntmps173 rfl rfl hw0 ?_
 simp only[bW]
 refine J0 ?_;refine aJ (λ x3=>?_);refine aH ?_;refine J0 ?_;refine aB (oL b5 [fn f cap] 0 hB rfl) rfl ?_;refine aC (Pf hK2.1 (hK2.2 a.mm (Mm.Le.refl _)) ok hm hA hB) (λ x5 h5=>?_);refine cG (hY λ _=>bF rf cN rf (dA _) dV rf jP) (λ _=>?_);refine aH ?_
 refine aZ Tryz.results173 (λ w hw=>?_)
 exact⟨x5,rfl,h5,hw.rN⟩
theorem qm{Kt:Tr}{v r:Int}{s:Mm}{b4 b5:Nat}{nd:Nd}(hK:Xr b Kt s f cap B)(hv:v<=s.nodes.length)(he:(eD s.nodes v).exp=nd.exp)(hst:(eD s.nodes v).status=nd.status)(hd:nd.status<=9223372036854775807):rB b 172 [pt b4,pt b5] [.int .i64 r] (bx b4 (nd.cells:List Value)::bx b5 [fn f cap]::B) s (.node v λ n2=>.node v λ n3=>.jZ n3.status 0 (if r=n2.exp then 1 else 2) λ _=>Kt):=by
 intro a D A w em ok hm hA hB hw0
 subst em
 refine enter Tryz.func172 Tryz.ntmps172 rfl rfl hw0 ?_
 simp only[bW]
 refine J0 ?_;refine aJ (λ x4=>?_);refine aH ?_;refine cP ?_;refine lA ?_;refine aE ?_;refine aB (oL b4 (nd.cells:List Value) 11 hB rfl) rfl ?_;refine uI ?_
 refine bB (λ c9=>?_) (λ c9=>?_)
 ·refine dF ?_;refine J1 ?_;refine J0 ?_;refine aE ?_;refine aB (oL b4 (nd.cells:List Value) 13 hB rfl) rfl ?_;refine aA ?_;(refine aB (cJ (by(repeat (first|exact cL _|(apply bX;focus ((conv=>{lhs;whnf});try exact rfl))));done)) rfl ?_);refine aR (cV (hc:=λ w1 hw=>sG _ _ _ _ _ w1)) (λ x14=>?_);refine cG (hY λ _=>bF rf cN rf (dA _) dV rf jP) (λ _=>?_);refine aH ?_
  refine aZ Tryz.results172 (λ w hw=>?_)
  refine⟨(tQ nd.status 0 1 _ _,[],a),rfl,⟨⟨hv,hv,?_⟩,ok,AS.iV.refl a⟩,hw.rI⟩
  dsimp only
  rw[he,hst,if_pos (by omega)]
  exact⟨rfl,hd,by have:=ok.mo.two;omega,_,_,rfl,by kernel_rfl,λ o s1 l=>(Uc (b5:=b5) (hK.le l) o).mr (λ y hy=>List.mem_cons_of_mem _ hy)⟩
 ·refine aW ?_;refine J0 ?_;refine aE ?_;refine aB (oL b4 (nd.cells:List Value) 13 hB rfl) rfl ?_;refine aA ?_;(refine aB (cJ (by(repeat (first|exact cL _|(apply bX;focus ((conv=>{lhs;whnf});try exact rfl))));done)) rfl ?_);refine aR (cV (hc:=λ w1 hw=>sG _ _ _ _ _ w1)) (λ x14=>?_);refine cG (hY λ _=>bF rf cN rf (dA _) dV rf jP) (λ _=>?_);refine aH ?_
  refine aZ Tryz.results172 (λ w hw=>?_)
  refine⟨(tQ nd.status 0 2 _ _,[],a),rfl,⟨⟨hv,hv,?_⟩,ok,AS.iV.refl a⟩,hw.rI⟩
  dsimp only
  rw[he,hst,if_neg (by omega)]
  exact⟨rfl,hd,by have:=ok.mo.two;omega,_,_,rfl,by kernel_rfl,λ o s1 l=>(Uc (b5:=b5) (hK.le l) o).mr (λ y hy=>List.mem_cons_of_mem _ hy)⟩
theorem Xk{Kt:Tr}{v:Int}{nd:Nd}(ht:t.root<=9223372036854775807)(hK:Xr b Kt a.mm f cap B)(hv:v<=a.mm.nodes.length)(ho:(eD a.mm.nodes v).bC=nd.bC)(he:(eD a.mm.nodes v).exp=nd.exp)(hst:(eD a.mm.nodes v).status=nd.status)(ok:a.Ok)(hm:a.mm.Small)(hA:∀f∈aL a.L,f∈A)(hB:∀x∈B,x∈A)(hs:SF w D [(b,eN a)] A [] (eS a) w) :
  Calls Tryz.prog 138 #[.agg ⟨lC b t⟩,nd.v,fn f cap] w (Bh b (λ c' s' B'=>kD b (tF t v Kt) a.mm c' s' B') a B D w):=by
 have hol:nd.bC<=a.mm.nodes.length:=by rw[<- ho];exact(ok.mo.at v).bC
 have hd:nd.status<=9223372036854775807:=by rw[<- hst];exact nZ hm (ok.mo.at v).status
 have hT:∀x4 x5:Nat,Du b (λ r=>.node v λ n2=>.node v λ n3=>.jZ n3.status 0 (if r=n2.exp then 1 else 2) λ _=>Kt) a.mm 172 [.pointer (some ⟨x4,0,none⟩),.pointer (some ⟨x5,0,none⟩)] (bx x5 [fn f cap]::bx x4 (nd.cells:List Value)::B):=λ x4 x5=>⟨by kernel_rfl,λ r s1 l hr=>(qm (b4:=x4) (b5:=x5) (nd:=nd) (hK.le l) (by have:=l.len;omega) (by rw[l.nd hv];exact he) (by rw[l.nd hv];exact hst) hd).mr (λ y hy=>by
  simp only[List.mem_cons] at hy ⊢
  rcases hy with h|h|h<;>simp[h])⟩
 refine enter Tryz.func138 Tryz.ntmps138 rfl rfl hs ?_
 simp only[bW]
 simp only[Nd.v,Nd.cells]
 refine J0 ?_;refine bL (λ x3=>?_);refine bL (λ x4=>?_);refine bL (λ x5=>?_);refine aJ (λ x6=>?_);refine aH ?_;refine nJ ?_;refine J3 ?_;(refine aB (cJ (by(repeat (first|exact cL _|(apply bX;focus ((conv=>{lhs;whnf});try exact rfl))));done)) rfl ?_);(refine aR (bE.pre (λ w h=>(show SF _ _ [_,_,(b,eN a)] _ [(bx x5 [fn f cap]:Option Addr×List Value),bx x4 (nd.cells:List Value)] _ w from(h.dD (.tail (.tail .head))).dD (.tail .head))) (cM (V:=λ y:Cd×Fr×AS=>.agg ⟨y.1.cells⟩) (hs:=[(b,eN a)]) (os:=eS a) (hs':=λ y=>[(b,eN y.2.2)]) (os':=λ y=>eS y.2.2) (Fc:=λ y=>y.2.1) (A0:=bx x5 [fn f cap]::bx x4 (nd.cells:List Value)::A) (hA:=bA.jo) (hc:=λ w1 hw=>qk ht (hT x4 x5) hol ok hm (λ f hf=>List.mem_cons_of_mem _ (List.mem_cons_of_mem _ (hA f hf))) (El hB) hw))) (λ x11=>?_);try (refine eY (λ h11=>?_)));refine cG (hY λ _=>bF rf cN rf (dA _) dV rf jP) (λ _=>?_);refine aH ?_
 refine aZ Tryz.results138 (λ w hw=>?_)
 refine⟨(x11.1,x11.2.1++[bx x5 [fn f cap],bx x4 (nd.cells:List Value)],x11.2.2),rfl,⟨⟨hv,?_⟩,h11.2.1,h11.2.2.more (λ f hf=>List.mem_append_left _ hf)⟩,hw.rI⟩
 dsimp only
 rw[ho,List.append_assoc]
 exact h11.1
end
end

/- gcas, root: the tasks. -/
section
open Go Go.RowKit Go.Ct
theorem nM.app{b:Nat}{p:Tr×Mm}{a:AS}{B B1 F:Fr}{c:Cd}{a':AS}(h:nM b p a (B1++B) (c,F,a')):nM b p a B (c,F++B1,a'):=by
 obtain⟨⟨h1,h2⟩,h3,h4⟩:=h
 refine⟨⟨?_,h2⟩,h3,h4.more λ f hf=>List.mem_append_left _ hf⟩
 simp only at h1 ⊢
 rw[List.append_assoc]
 exact h1
section
variable{D:List Nat}{A B:Fr}{a:AS}{b:Nat}{w:World}{f:FuncId}{cap:List Value}{t:fY}
theorem W8{t:Tr}{i m:Nat}(ht:bQ t i m)(h:Xr b t a.mm f cap B)(ok:a.Ok)(hm:a.mm.Small)(hA:∀f∈aL a.L,f∈A)(hB:∀x∈B,x∈A)(hs:SF w D [(b,eN a)] A [] (eS a) w) :
  Calls Tryz.prog 73 #[.iface 42 (.pointer (some ⟨b,0,none⟩)),.func (.func f) #[] ⟨cap⟩] w λ e w'=>∃x:Nat×Cd×Fr×AS,e=.returned (.pointer (some ⟨x.1,0,none⟩))/\(nM b (Ct.iZ t a.mm) a B x.2/\eE (Ct.iZ t a.mm).1=true)/\SF w D ([(b,eN x.2.2.2)]++[(x.1,tO b x.2.1 0)]) [] x.2.2.1 (eS x.2.2.2++[]) w' :=
 (de ht h ok hm hA hB hs).mono λ _ _ ⟨x,e,h,hw⟩=>⟨x,e,h,by rw[List.append_nil];exact hw.perm (List.Perm.swap _ _ _) (List.Perm.refl _)⟩
theorem tx{s:Mm}(v:Bool):zQ b 98 [] [.bool v] B s (λ c' s' B'=>kD b (.done (pR 0 v)) s c' s' B'):=by
 intro a D A w em ok hm hA hB hw0
 subst em
 refine enter Tryz.func98 Tryz.ntmps98 rfl rfl hw0 ?_
 simp only[bW]
 refine J0 ?_;refine aJ (λ x2=>?_);refine aH ?_;refine J2 ?_;refine bG ?_;refine aR (cV (hc:=λ w1 hw=>mi (pR 0 v) w1)) (λ x5=>?_);refine J5 ?_
 refine aZ Tryz.results98 (λ w hw=>?_)
 exact⟨(Bq (pR 0 v),[],a),rfl,⟨⟨rfl,rfl⟩,ok,AS.iV.refl a⟩,hw.rI⟩
end
end

/- root: Help. -/
section
open Go Go.RowKit Go.Ct
section
variable{D:List Nat}{A B:Fr}{a:AS}{b:Nat}{w:World}{f:FuncId}{cap:List Value}{t:fY}
end
end

/- root: Replace. -/
section
open Go Go.RowKit Go.Ct
section
variable{D:List Nat}{A B:Fr}{a:AS}{b:Nat}{w:World}{f:FuncId}{cap:List Value}{t:fY}
theorem ng{K:Bool->Tr}{x r:Int}{s:Mm}{b3 b4:Nat}(hK:Q2 b K s f cap B):rB b 142 [pt b3,pt b4] [.int .i64 r] (bx b3 [fn f cap]::bx b4 [iv x]::B) s (K (x==1)):=by
 intro a D A w em ok hm hA hB hw0
 subst em
 have hK2:=hK.more (B2:=(bx b3 [fn f cap]::bx b4 [iv x]::B)) (λ x hx=>by simp[hx])
 refine enter Tryz.func142 Tryz.ntmps142 rfl rfl hw0 ?_
 simp only[bW]
 refine J0 ?_;refine aJ (λ x4=>?_);refine aH ?_;refine J0 ?_;refine aB (oL b3 [fn f cap] 0 hB rfl) rfl ?_;refine aB (oL b4 [.int .i64 x] 0 hB rfl) rfl ?_;refine kV ?_;refine aC (Pf hK2.1 (hK2.2 (x==1) a.mm (Mm.Le.refl _)) ok hm hA hB) (λ x8 h8=>?_);refine cG (hY λ _=>bF rf cN rf (dA _) dV rf jP) (λ _=>?_);refine aH ?_
 refine aZ Tryz.results142 (λ w hw=>?_)
 exact⟨x8,rfl,h8,hw.rN⟩
theorem qp{K:Bool->Tr}{v x:Int}{s:Mm}{b1 b2 b3:Nat}(ht:t.root<=9223372036854775807)(hK:Q2 b K s f cap B)(hv:v<=s.nodes.length):rB b 140 [pt b1,pt b2,pt b3] [.int .i64 x] (bx b1 (lC b t)::bx b2 [iv v]::bx b3 [fn f cap]::B) s (qN t v x λ _=>K (x==1)):=by
 intro a D A w em ok hm hA hB hw0
 subst em
 have hT:∀x4:Nat,Du b (λ _=>K (x==1)) a.mm 142 [.pointer (some ⟨b3,0,none⟩),.pointer (some ⟨x4,0,none⟩)] (bx x4 [iv x]::(bx b1 (lC b t)::bx b2 [iv v]::bx b3 [fn f cap]::B)):=λ x4=>⟨by kernel_rfl,λ r s1 l hr=>(ng (b3:=b3) (b4:=x4) (r:=r) (hK.le l)).mr (λ y hy=>by
  simp only[List.mem_cons] at hy ⊢
  rcases hy with h|h|h<;>simp[h])⟩
 refine enter Tryz.func140 Tryz.ntmps140 rfl rfl hw0 ?_
 simp only[bW]
 refine J0 ?_;refine bL (λ x4=>?_);refine aJ (λ x5=>?_);refine aH ?_;refine J0 ?_;refine aB (Yb b1 (lC b t) 0 3 hB rfl rfl) rfl ?_;refine aB (oL b2 [.int .i64 v] 0 hB rfl) rfl ?_;refine bO ?_;(refine aB (cJ (by(repeat (first|exact cL _|(apply bX;focus ((conv=>{lhs;whnf});try exact rfl))));done)) rfl ?_);(refine aR (bE.pre (λ w h=>(show SF _ _ [_,(b,eN a)] _ [(bx x4 [iv x]:Option Addr×List Value)] _ w from h.dD (.tail .head))) (cM (V:=λ y:Cd×Fr×AS=>.agg ⟨y.1.cells⟩) (hs:=[(b,eN a)]) (os:=eS a) (hs':=λ y=>[(b,eN y.2.2)]) (os':=λ y=>eS y.2.2) (Fc:=λ y=>y.2.1) (A0:=bx x4 [iv x]::A) (hA:=bA.yj) (hc:=λ w1 hw=>uW ht (hT x4) hv ok hm (λ f hf=>List.mem_cons_of_mem _ (hA f hf)) (Rb hB) hw))) (λ x10=>?_);try (refine eY (λ h10=>?_)));refine cG (hY λ _=>bF rf cN rf (dA _) dV rf jP) (λ _=>?_);refine aH ?_
 refine aZ Tryz.results140 (λ w hw=>?_)
 refine⟨(x10.1,x10.2.1++[bx x4 [iv x]],x10.2.2),rfl,⟨?_,h10.2.1,h10.2.2.more (λ f hf=>List.mem_append_left _ hf)⟩,hw.rI⟩
 dsimp only
 rw[List.append_assoc]
 exact h10.1
theorem qv{K:Bool->Tr}{v:Int}{s:Mm}{b0 b1 b2 b3:Nat}{nd:Nd}(ht:t.root<=9223372036854775807)(hK:Q2 b K s f cap B)(hv:v<=s.nodes.length)(hst:(eD s.nodes v).status=nd.status):rB b 139 [pt b0,pt b1,pt b2,pt b3] [] (bx b0 (nd.cells:List Value)::bx b1 (lC b t)::bx b2 [iv v]::bx b3 [fn f cap]::B) s (.node v λ nd=>.load nd.status λ s=>qN t v s λ _=>K (s==1)):=by
 intro a D A w em ok hm hA hB hw0
 subst em
 have hd:nd.status<=9223372036854775807:=by rw[<- hst];exact nZ hm (ok.mo.at v).status
 refine enter Tryz.func139 Tryz.ntmps139 rfl rfl hw0 ?_
 simp only[bW]
 refine J0 ?_;refine aJ (λ x4=>?_);refine aH ?_;refine J0 ?_;refine aE ?_;refine aB (oL b0 (nd.cells:List Value) 13 hB rfl) rfl ?_;(refine aB (cJ (by(repeat (first|exact cL _|(apply bX;focus ((conv=>{lhs;whnf});try exact rfl))));done)) rfl ?_);refine aR (cV (hc:=λ w1 hw=>sP _ _ _ w1)) (λ x8=>?_);refine cG (hY λ _=>bF rf cN rf (dA _) dV rf jP) (λ _=>?_);refine aH ?_
 refine aZ Tryz.results139 (λ w hw=>?_)
 refine⟨(qK nd.status _ _,[],a),rfl,⟨⟨hv,?_⟩,ok,AS.iV.refl a⟩,hw.rI⟩
 dsimp only
 rw[hst]
 exact⟨rfl,hd,_,_,rfl,by kernel_rfl,λ x s1 l hx=>(qp (b1:=b1) (b2:=b2) (b3:=b3) ht (hK.le l) (by have:=l.len;omega)).mr (λ y hy=>List.mem_cons_of_mem _ hy)⟩
theorem pb{K:Bool->Tr}{v:Int}{s:Mm}{b0 b1 b2 b3:Nat}{nd:Nd}(ht:t.root<=9223372036854775807)(hK:Q2 b K s f cap B)(hv:v<=s.nodes.length)(ho:(eD s.nodes v).bC=nd.bC)(he:(eD s.nodes v).exp=nd.exp)(hst:(eD s.nodes v).status=nd.status)(o:Bool):rB b 137 [pt b3,pt b1,pt b0,pt b2] [.bool o] (bx b3 [fn f cap]::bx b1 (lC b t)::bx b0 (nd.cells:List Value)::bx b2 [iv v]::B) s (if o=true then tF t v (.node v λ nd=>.load nd.status λ s=>qN t v s λ _=>K (s==1)) else K false):=by
 intro a D A w em ok hm hA hB hw0
 subst em
 have hK2:=hK.more (B2:=(bx b3 [fn f cap]::bx b1 (lC b t)::bx b0 (nd.cells:List Value)::bx b2 [iv v]::B)) (λ x hx=>by simp[hx])
 have hT:Xr b (.node v λ nd=>.load nd.status λ s=>qN t v s λ _=>K (s==1)) a.mm 139 [.pointer (some ⟨b0,0,none⟩),.pointer (some ⟨b1,0,none⟩),.pointer (some ⟨b2,0,none⟩),.pointer (some ⟨b3,0,none⟩)] (bx b3 [fn f cap]::bx b1 (lC b t)::bx b0 (nd.cells:List Value)::bx b2 [iv v]::B):=⟨by kernel_rfl,λ s1 l=>(qv (b0:=b0) (b1:=b1) (b2:=b2) (b3:=b3) (nd:=nd) ht (hK.le l) (by have:=l.len;omega) (by rw[l.nd hv];exact hst)).mr (λ y hy=>by
  simp only[List.mem_cons] at hy ⊢
  rcases hy with h|h|h|h|h<;>simp[h])⟩
 refine enter Tryz.func137 Tryz.ntmps137 rfl rfl hw0 ?_
 simp only[bW]
 refine J0 ?_;refine aJ (λ x6=>?_);refine aH ?_;refine lA ?_;refine nY ?_
 refine bB (λ c8=>?_) (λ c8=>?_)
 ·refine J0 ?_;refine aB (oL b3 [fn f cap] 0 hB rfl) rfl ?_;refine aC (Pf hK2.1 (hK2.2 false a.mm (Mm.Le.refl _)) ok hm hA hB) (λ x10 h10=>?_);refine cG (hY λ _=>bF rf cN rf (dA _) dV rf jP) (λ _=>?_);refine aH ?_
  refine aZ Tryz.results137 (λ w hw=>?_)
  refine⟨x10,rfl,⟨?_,h10.2⟩,hw.rN⟩
  rw[if_neg (by rw[show o=false by simpa using c8];decide)]
  exact h10.1
 ·refine aW ?_;refine J0 ?_;refine aB (Yb b1 (lC b t) 0 3 hB rfl rfl) rfl ?_;refine aB (Yb b0 (nd.cells:List Value) 0 14 hB rfl rfl) rfl ?_;(refine aB (cJ (by(repeat (first|exact cL _|(apply bX;focus ((conv=>{lhs;whnf});try exact rfl))));done)) rfl ?_);refine aC (L0 (λ w1 hw=>Xk (nd:=nd) ht hT hv ho he hst ok hm hA hB hw)) (λ x14 h14=>?_);refine cG (hY λ _=>bF rf cN rf (dA _) dV rf jP) (λ _=>?_);refine aH ?_
  refine aZ Tryz.results137 (λ w hw=>?_)
  refine⟨x14,rfl,⟨?_,h14.2⟩,hw.rN⟩
  rw[if_pos (by simpa using c8)]
  exact h14.1
theorem Q7{K:Bool->Tr}{fq:FuncId}{bC exp nw:Int}(ht:t.root<=9223372036854775807)(hK:Q2 b K a.mm fq cap B)(ho:bC<=a.mm.nodes.length)(he:exp<=a.mm.nodes.length)(hnw:nw<=a.mm.nodes.length)(ok:a.Ok)(hm:a.mm.Small)(hA:∀f∈aL a.L,f∈A)(hB:∀x∈B,x∈A)(hs:SF w D [(b,eN a)] A [] (eS a) w) :
  Calls Tryz.prog 97 #[.agg ⟨lC b t⟩,.int .i64 bC,.int .i64 exp,.int .i64 nw,fn fq cap] w (Bh b (λ c' s' B'=>kD b (nL t bC exp nw K) a.mm c' s' B') a B D w):=by
 have okA:∀x:AX,(a.al ({Nd.zero with kind:=8,bC:=bC,exp:=exp,new:=nw}:Nd) [] [] 0 x).Ok:=λ x=>ok.al x (by simp) (by simp) ⟨ho,he,hnw,(λ r hr=>nomatch hr),bH _,bH _,bH _,⟨0,rfl,by decide⟩,⟨0,rfl,by decide⟩⟩ (by omega)
 have hlA:∀x:AX,(a.al ({Nd.zero with kind:=8,bC:=bC,exp:=exp,new:=nw}:Nd) [] [] 0 x).mm.nodes.length=a.mm.nodes.length+1:=λ x=>by rw[oA];show(a.mm.nodes++[_]).length=_;simp
 have hleA:∀x:AX,a.mm.Le (a.al ({Nd.zero with kind:=8,bC:=bC,exp:=exp,new:=nw}:Nd) [] [] 0 x).mm:=λ x=>by rw[oA];exact L5 _ _ _
 refine enter Tryz.func97 Tryz.ntmps97 rfl rfl hs ?_
 simp only[bW]
 refine J0 ?_;refine bL (λ x5=>?_);refine bL (λ x9=>?_);refine aJ (λ x10=>?_);refine P4 ?_
 refine dW [11,13,14,15,16,17,18,19,20,21] (λ j:Nat×AX=>[(11,.pointer (some ⟨j.1,0,none⟩))]) (λ _=>True) (λ j=>[(j.1,.cells ⟨[.int .i64 ((a.mm.nodes.length+1:Nat):Int)]⟩ 37 (0,0)),(x10,.cells ⟨(Bq Rs.zero).cells⟩ 132 (0,0)),(x9,.cells ⟨[fn fq cap]⟩ 130 (0,0)),(x5,.cells ⟨lC b t⟩ 125 (0,0)),(b,eN (a.al ({Nd.zero with kind:=8,bC:=bC,exp:=exp,new:=nw}:Nd) [] [] 0 j.2))]) (λ j=>(jB ({Nd.zero with kind:=8,bC:=bC,exp:=exp,new:=nw}:Nd) [] [] a.cs.length j.2).fr) (λ j=>eS (a.al ({Nd.zero with kind:=8,bC:=bC,exp:=exp,new:=nw}:Nd) [] [] 0 j.2)) (by decide) (λ _=>by exact rfl) ?_ (λ j f hx=>?_)
 ·refine gW (.one 0 [] (.one 1 [] (.one 2 [] (.one 3 [] (.one 4 [] (.one 6 [] (.one 7 [] (.two 5 [1] (.two 8 [] (.one 9 [1] (.one 10 [] .nil)) 0 [] (.two 9 [1] (.one 8 [] (.one 10 [] .nil)) 0 [] .nil)) 0 [] (.two 9 [1] (.one 5 [1] (.one 8 [] (.one 10 [] .nil))) 0 [] .nil))))))))) ?_
  refine mX ?_;refine hX ?_;refine aM ?_;refine cB (i:=6) (hq:=(Cr rf)) (h:=?_);refine aM ?_
  refine gY (E:=[5,9]) (by decide +kernel) ((.cons ?_ (.cons ?_ .nil)))
  ·refine Cn (i:=5) (hq:=(cV (hc:=λ w1 hw=>bs bC exp nw w1))) (h:=λ x18=>?_)
   refine gY (E:=[8,9]) (by decide +kernel) ((.cons ?_ (.cons ?_ .nil)))
   ·refine kN (i:=8) (hq:=(yq (V:=λ _:AX=>.int .i64 ((a.mm.nodes.length+1:Nat):Int)) (hs:=[(b,eN a)]) (os:=eS a) (A0:=[(none,aG []),(none,dB [])]) (hs':=λ x=>[(b,eN (a.al ({Nd.zero with kind:=8,bC:=bC,exp:=exp,new:=nw}:Nd) [] [] 0 x))]) (os':=λ x=>eS (a.al ({Nd.zero with kind:=8,bC:=bC,exp:=exp,new:=nw}:Nd) [] [] 0 x)) (Fc:=λ x=>(jB ({Nd.zero with kind:=8,bC:=bC,exp:=exp,new:=nw}:Nd) [] [] a.cs.length x).fr) (hm:=λ w=>wI _ _ _ w) (hc:=λ w1 hw=>rR ok hm 0 rfl rfl (by simp) (by simp) (λ f hf=>hf) hw))) (h:=λ x21 h21=>?_)
    refine cD (i:=9) (hq:=(hY λ _=>Ha (z:=.int .i64 0) (by kernel_rfl) rfl)) (h:=λ x11=>?_);refine yP ?_
    refine eP ((x11,x21)) ?_
    ·trivial
   ·refine Cn (i:=9) (hq:=(hY λ _=>Ha (z:=.int .i64 0) (by kernel_rfl) rfl)) (h:=λ x11=>?_)
    refine aY (i:=8) (hq:=(yq (V:=λ _:AX=>.int .i64 ((a.mm.nodes.length+1:Nat):Int)) (hs:=[(b,eN a)]) (os:=eS a) (A0:=[(none,aG []),(none,dB [])]) (hs':=λ x=>[(b,eN (a.al ({Nd.zero with kind:=8,bC:=bC,exp:=exp,new:=nw}:Nd) [] [] 0 x))]) (os':=λ x=>eS (a.al ({Nd.zero with kind:=8,bC:=bC,exp:=exp,new:=nw}:Nd) [] [] 0 x)) (Fc:=λ x=>(jB ({Nd.zero with kind:=8,bC:=bC,exp:=exp,new:=nw}:Nd) [] [] a.cs.length x).fr) (hm:=λ w=>wI _ _ _ w) (hc:=λ w1 hw=>rR ok hm 0 rfl rfl (by simp) (by simp) (λ f hf=>hf) hw))) (h:=λ x21 h21=>?_);refine yP ?_
    refine eP ((x11,x21)) ?_
    ·trivial
  ·refine Cn (i:=9) (hq:=(hY λ _=>Ha (z:=.int .i64 0) (by kernel_rfl) rfl)) (h:=λ x11=>?_)
   refine cD (i:=5) (hq:=(cV (hc:=λ w1 hw=>bs bC exp nw w1))) (h:=λ x18=>?_);refine aY (i:=8) (hq:=(yq (V:=λ _:AX=>.int .i64 ((a.mm.nodes.length+1:Nat):Int)) (hs:=[(b,eN a)]) (os:=eS a) (A0:=[(none,aG []),(none,dB [])]) (hs':=λ x=>[(b,eN (a.al ({Nd.zero with kind:=8,bC:=bC,exp:=exp,new:=nw}:Nd) [] [] 0 x))]) (os':=λ x=>eS (a.al ({Nd.zero with kind:=8,bC:=bC,exp:=exp,new:=nw}:Nd) [] [] 0 x)) (Fc:=λ x=>(jB ({Nd.zero with kind:=8,bC:=bC,exp:=exp,new:=nw}:Nd) [] [] a.cs.length x).fr) (hm:=λ w=>wI _ _ _ w) (hc:=λ w1 hw=>rR ok hm 0 rfl rfl (by simp) (by simp) (λ f hf=>hf) hw))) (h:=λ x21 h21=>?_);refine yP ?_
   refine eP ((x11,x21)) ?_
   ·trivial
 dsimp only[gU,List.map,List.cons_append,List.nil_append]
 refine gI ?_;refine bO ?_;refine aC (aAL (V:=λ q:Option Addr×Option Addr=>.agg ⟨((aD (cY (a.al ({Nd.zero with kind:=8,bC:=bC,exp:=exp,new:=nw}:Nd) [] [] 0 j.2).L) ((a.mm.nodes.length+1:Nat):Int)).at_ q.1 q.2).nd.cells⟩) (hs:=[(b,eN (a.al ({Nd.zero with kind:=8,bC:=bC,exp:=exp,new:=nw}:Nd) [] [] 0 j.2))]) (os:=eS (a.al ({Nd.zero with kind:=8,bC:=bC,exp:=exp,new:=nw}:Nd) [] [] 0 j.2)) (A0:=aL (a.al ({Nd.zero with kind:=8,bC:=bC,exp:=exp,new:=nw}:Nd) [] [] 0 j.2).L) (hA:=bA.of λ f hf=>((AS.iV.al a _ _ _ _ j.2).fam f hf).imp_right λ h=>h.elim (λ h=>.inl (hA f h)) λ h=>.inr (.inl h)) (hm:=λ w=>N4 _ _ w) (hc:=λ w1 hw=>Y1 (okA j.2) (by have:=hm.1;have:=hlA j.2;omega) ((a.mm.nodes.length+1:Nat):Int) (by have:=hlA j.2;have:=hm.1;omega) hw)) (λ x25 h25=>?_);refine aJ (λ x12=>?_);refine J5 ?_;refine J0 ?_;refine aE ?_;refine J3 ?_;refine aA ?_;refine bO ?_;(refine aB (cJ (by(repeat (first|exact cL _|(apply bX;focus ((conv=>{lhs;whnf});try exact rfl))));done)) rfl ?_);refine aR (cV (hc:=λ w1 hw=>sG _ _ _ _ _ w1)) (λ x32=>?_);refine cG (hY λ _=>bF rf cN rf (dA _) dV rf jP) (λ _=>?_);refine aH ?_
 refine aZ Tryz.results97 (λ w hw=>?_)
 refine⟨(tQ t.root bC ((a.mm.nodes.length+1:Nat):Int) _ _,[bx x12 (((aD (cY (a.al ({Nd.zero with kind:=8,bC:=bC,exp:=exp,new:=nw}:Nd) [] [] 0 j.2).L) ((a.mm.nodes.length+1:Nat):Int)).at_ x25.1 x25.2).nd.cells:List Value),bx j.1 [iv ((a.mm.nodes.length+1:Nat):Int)],bx x9 [fn fq cap],bx x5 (lC b t)]++(jB ({Nd.zero with kind:=8,bC:=bC,exp:=exp,new:=nw}:Nd) [] [] a.cs.length j.2).fr,(a.al ({Nd.zero with kind:=8,bC:=bC,exp:=exp,new:=nw}:Nd) [] [] 0 j.2)),rfl,⟨?_,okA j.2,(AS.iV.al a _ _ _ _ j.2).more (λ f hf=>List.mem_append_right _ hf)⟩,?_⟩
 ·refine⟨oA a _ _ _ _ j.2,ht,?_,_,_,rfl,by kernel_rfl,λ o s1 l=>?_⟩
  ·show _<=(((a.mm.nodes++[_]).length:Nat):Int)
   rw[List.length_append]
   simp
  ·have l1:(a.al ({Nd.zero with kind:=8,bC:=bC,exp:=exp,new:=nw}:Nd) [] [] 0 j.2).mm.Le s1:=by rw[oA];exact l
   have hl1:=l1.len
   have hl2:=hlA j.2
   have hv1:((a.mm.nodes.length+1:Nat):Int)<=(a.al ({Nd.zero with kind:=8,bC:=bC,exp:=exp,new:=nw}:Nd) [] [] 0 j.2).mm.nodes.length:=by omega
   exact(pb (b0:=x12) (b1:=x5) (b2:=j.1) (b3:=x9) (nd:=((aD (cY (a.al ({Nd.zero with kind:=8,bC:=bC,exp:=exp,new:=nw}:Nd) [] [] 0 j.2).L) ((a.mm.nodes.length+1:Nat):Int)).at_ x25.1 x25.2).nd) ht (hK.le ((hleA j.2).trans l1)) (by omega) (by rw[l1.nd hv1,kB];rfl) (by rw[l1.nd hv1,kB];rfl) (by rw[l1.nd hv1,kB];rfl) o).mr (λ y hy=>by
   simp only[List.mem_cons,List.mem_append,List.not_mem_nil,or_false] at hy ⊢
   rcases hy with h|h|h|h|h<;>simp[h])
 ·exact((((hw.dD (.tail (.tail (.tail (.tail .head))))).dD (.tail (.tail (.tail .head)))).dD (.tail .head)).dD .head).rI
end
end

end Go.Proofs.YtbajmaoegmbfgaaGreat
