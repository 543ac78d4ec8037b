/- gcas: Read, Swap. -/
import Derived.Test.YtbajmaoegmbfgaaGreatGGc3
import Derived.Test.YtbajmaoegmbfgaaGreatGTm2

set_option linter.unusedSimpArgs false
set_option linter.unusedVariables false
namespace Go.Proofs.YtbajmaoegmbfgaaGreat
section
open Go Go.RowKit Go.Ct
section
variable{D:List Nat}{A B:Fr}{a:AS}{b:Nat}{w:World}{f:FuncId}{cap:List Value}{t:gY}
theorem Z6{K:Int->Tr}{i m:Int}{s:Mm}{bt bo bi:Nat}(ht:t.root<=9223372036854775807)(hK:zN b K s f cap B)(hi:i<=s.nodes.length)(hmm:m<=s.nodes.length):oJ b 131 [pt bo,pt bi,pt bt] [.int .i64 m] (bx bo (iS b t)::bx bi [iv i]::bx bt [fn f cap]::B) s (sJ t i m K):=by
 intro a D A w em ok hm hA hB hw0
 subst em
 have hK2:=hK.more (B2:=(bx bo (iS b t)::bx bi [iv i]::bx bt [fn f cap]::B)) (λ x hx=>by simp[hx])
 refine enter Tryz.func131 Tryz.ntmps131 rfl rfl hw0 ?_
 simp only[cN]
 all_goals (refine J0 ?_;refine aJ (λ x5=>?_);refine aH ?_;refine J0 ?_;refine aB (On bo (iS b t) 0 3 hB rfl rfl) rfl ?_;refine aB (mS bi [.int .i64 i] 0 hB rfl) rfl ?_;refine aA ?_;refine aB (mS bt [fn f cap] 0 hB rfl) rfl ?_;refine aC (Bj (λ w1 hw=>V5 ht hK2 hi hmm ok hm hA hB hw)) (λ x10 h10=>?_);refine bZ (dR λ _=>aK rf bQ rf (cO _) cD rf eE) (λ _=>?_);refine aH ?_)
 all_goals
 refine bE Tryz.results131 (λ w hw=>?_)
 exact⟨x10,rfl,h10,hw.rN⟩
theorem ou{K:Int->Tr}{i:Int}(ht:t.root<=9223372036854775807)(hK:zN b K a.mm f cap B)(hi:i<=a.mm.nodes.length)(ok:a.Ok)(hm:a.mm.Small)(hA:∀f∈aR a.L,f∈A)(hB:∀x∈B,x∈A)(hs:SF w D [(b,fM a)] A [] (fX a) w) :
  Calls Tryz.prog 88 #[.agg ⟨iS b t⟩,.int .i64 i,fn f cap] w (An b (λ c' s' B'=>kW b (nV t i K) a.mm c' s' B') a B D w):=by
 have ni:=C3 ok i
 refine enter Tryz.func88 Tryz.ntmps88 rfl rfl hs ?_
 simp only[cN]
 all_goals (refine J0 ?_;refine bW (λ x3=>?_);refine bW (λ x4=>?_);refine bW (λ x5=>?_);refine aJ (λ x6=>?_);refine aH ?_;refine iZ ?_;refine bX ?_;refine aC (Hz i ok hm hA hi) (λ x10 h10=>?_);refine dF ?_;(refine aB (cI (by(repeat (first|exact cP _|(apply cC;focus ((conv=>{lhs;whnf});try exact rfl))));first|done|fail)) rfl ?_);refine aY (cV (hc:=λ w1 hw=>nP _ _ _ w1)) (λ x13=>?_);refine bZ (dR λ _=>aK rf bQ rf (cO _) cD rf eE) (λ _=>?_);refine aH ?_)
 all_goals
 refine bE Tryz.results88 (λ w hw=>?_)
 refine⟨(nJ (aD (dG a.L) i).nd.main _ _,[bx x3 (iS b t),bx x4 [iv i],bx x5 [fn f cap]],a),rfl,⟨⟨hi,?_⟩,ok,(AS.iQ.refl a).more (λ _ h=>(List.not_mem_nil h).elim)⟩,?_⟩
 ·rw[iW]
  exact⟨rfl,mE hm ni.main,_,_,rfl,by kernel_rfl,λ m s1 l hmm=>Z6 (bo:=x3) (bi:=x4) (bt:=x5) ht (hK.le l) (by have:=l.len;omega) hmm⟩
 ·exact(((hw.dB (.tail .head)).dB (.tail .head)).dB (.tail .head)).rI
end
end

/- root: decide. -/
end Go.Proofs.YtbajmaoegmbfgaaGreat
namespace Go.Ct
section
open Go Go.RowKit
theorem aM.pre{P:Program}{S:List (Nat×Value)}{G G2:World->Prop}{o:Oper}{X:Type}{V:X->Value}{G':X->World->Prop}(h:∀w,G w->G2 w)(hl:aM P S G2 o X V G'):aM P S G o X V G':=⟨λ w hw=>hl.run w (h w hw)⟩
end
end Go.Ct
namespace Go.Proofs.YtbajmaoegmbfgaaGreat
section
open Go Go.RowKit Go.Ct
section
variable{D:List Nat}{A B:Fr}{a:AS}{b:Nat}{w:World}{f:FuncId}{cap:List Value}{t:gY}
theorem Vh{Kt:Tr}{s:Mm}{b5:Nat}(hK:Sn b Kt s f cap B)(o:Bool):oJ b 173 [pt b5] [.bool o] (bx b5 [fn f cap]::B) s (Kt):=by
 intro a D A w em ok hm hA hB hw0
 subst em
 have hK2:=hK.more (B2:=(bx b5 [fn f cap]::B)) (λ x hx=>by simp[hx])
 refine enter Tryz.func173 Tryz.ntmps173 rfl rfl hw0 ?_
 simp only[cN]
 all_goals (refine J0 ?_;refine aJ (λ x3=>?_);refine aH ?_;refine J0 ?_;refine aB (mS b5 [fn f cap] 0 hB rfl) rfl ?_;refine aC (Kj hK2.1 (hK2.2 a.mm (Mm.Le.refl _)) ok hm hA hB) (λ x5 h5=>?_);refine bZ (dR λ _=>aK rf bQ rf (cO _) cD rf eE) (λ _=>?_);refine aH ?_)
 all_goals
 refine bE Tryz.results173 (λ w hw=>?_)
 exact⟨x5,rfl,h5,hw.rN⟩
theorem ln{Kt:Tr}{v r:Int}{s:Mm}{b4 b5:Nat}{nd:Nd}(hK:Sn b Kt s f cap B)(hv:v<=s.nodes.length)(he:(fV s.nodes v).exp=nd.exp)(hst:(fV s.nodes v).status=nd.status)(hd:nd.status<=9223372036854775807):oJ b 172 [pt b4,pt b5] [.int .i64 r] (bx b4 (nd.cells:List Value)::bx b5 [fn f cap]::B) s (.node v λ n2=>.node v λ n3=>.kX n3.status 0 (if r=n2.exp then 1 else 2) λ _=>Kt):=by
 intro a D A w em ok hm hA hB hw0
 subst em
 refine enter Tryz.func172 Tryz.ntmps172 rfl rfl hw0 ?_
 simp only[cN]
 all_goals (refine J0 ?_;refine aJ (λ x4=>?_);refine aH ?_;refine dC ?_;refine lW ?_;refine aE ?_;refine aB (mS b4 (nd.cells:List Value) 11 hB rfl) rfl ?_;refine uS ?_)
 all_goals
 refine bG (λ c9=>?_) (λ c9=>?_)
 ·all_goals (refine eR ?_;refine J1 ?_;refine J0 ?_;refine aE ?_;refine aB (mS b4 (nd.cells:List Value) 13 hB rfl) rfl ?_;refine aA ?_;(refine aB (cI (by(repeat (first|exact cP _|(apply cC;focus ((conv=>{lhs;whnf});try exact rfl))));first|done|fail)) rfl ?_);refine aY (cV (hc:=λ w1 hw=>tM _ _ _ _ _ w1)) (λ x14=>?_);refine bZ (dR λ _=>aK rf bQ rf (cO _) cD rf eE) (λ _=>?_);refine aH ?_)
  all_goals
   refine bE Tryz.results172 (λ w hw=>?_)
   refine⟨(tY nd.status 0 1 _ _,[],a),rfl,⟨⟨hv,hv,?_⟩,ok,AS.iQ.refl a⟩,hw.rI⟩
   dsimp only
   rw[he,hst,if_pos (by omega)]
   exact⟨rfl,hd,by have:=ok.mo.two;omega,_,_,rfl,by kernel_rfl,λ o s1 l=>(Vh (b5:=b5) (hK.le l) o).mr (λ y hy=>List.mem_cons_of_mem _ hy)⟩
 ·all_goals (refine bD ?_;refine J0 ?_;refine aE ?_;refine aB (mS b4 (nd.cells:List Value) 13 hB rfl) rfl ?_;refine aA ?_;(refine aB (cI (by(repeat (first|exact cP _|(apply cC;focus ((conv=>{lhs;whnf});try exact rfl))));first|done|fail)) rfl ?_);refine aY (cV (hc:=λ w1 hw=>tM _ _ _ _ _ w1)) (λ x14=>?_);refine bZ (dR λ _=>aK rf bQ rf (cO _) cD rf eE) (λ _=>?_);refine aH ?_)
  all_goals
   refine bE Tryz.results172 (λ w hw=>?_)
   refine⟨(tY nd.status 0 2 _ _,[],a),rfl,⟨⟨hv,hv,?_⟩,ok,AS.iQ.refl a⟩,hw.rI⟩
   dsimp only
   rw[he,hst,if_neg (by omega)]
   exact⟨rfl,hd,by have:=ok.mo.two;omega,_,_,rfl,by kernel_rfl,λ o s1 l=>(Vh (b5:=b5) (hK.le l) o).mr (λ y hy=>List.mem_cons_of_mem _ hy)⟩
theorem Iy{Kt:Tr}{v:Int}{nd:Nd}(ht:t.root<=9223372036854775807)(hK:Sn b Kt a.mm f cap B)(hv:v<=a.mm.nodes.length)(ho:(fV a.mm.nodes v).bF=nd.bF)(he:(fV a.mm.nodes v).exp=nd.exp)(hst:(fV a.mm.nodes v).status=nd.status)(ok:a.Ok)(hm:a.mm.Small)(hA:∀f∈aR a.L,f∈A)(hB:∀x∈B,x∈A)(hs:SF w D [(b,fM a)] A [] (fX a) w) :
  Calls Tryz.prog 138 #[.agg ⟨iS b t⟩,nd.v,fn f cap] w (An b (λ c' s' B'=>kW b (oO t v Kt) a.mm c' s' B') a B D w):=by
 have hol:nd.bF<=a.mm.nodes.length:=by rw[<- ho];exact(ok.mo.at v).bF
 have hd:nd.status<=9223372036854775807:=by rw[<- hst];exact mE hm (ok.mo.at v).status
 have hT:∀x4 x5:Nat,zN b (λ r=>.node v λ n2=>.node v λ n3=>.kX n3.status 0 (if r=n2.exp then 1 else 2) λ _=>Kt) a.mm 172 [.pointer (some ⟨x4,0,none⟩),.pointer (some ⟨x5,0,none⟩)] (bx x5 [fn f cap]::bx x4 (nd.cells:List Value)::B):=λ x4 x5=>⟨by kernel_rfl,λ r s1 l hr=>(ln (b4:=x4) (b5:=x5) (nd:=nd) (hK.le l) (by have:=l.len;omega) (by rw[l.nd hv];exact he) (by rw[l.nd hv];exact hst) hd).mr (λ y hy=>by
  simp only[List.mem_cons] at hy ⊢
  rcases hy with h|h|h<;>simp[h])⟩
 refine enter Tryz.func138 Tryz.ntmps138 rfl rfl hs ?_
 simp only[cN]
 simp only[Nd.v,Nd.cells]
 all_goals (refine J0 ?_;refine bW (λ x3=>?_);refine bW (λ x4=>?_);refine bW (λ x5=>?_);refine aJ (λ x6=>?_);refine aH ?_;refine qF ?_;refine J3 ?_;(refine aB (cI (by(repeat (first|exact cP _|(apply cC;focus ((conv=>{lhs;whnf});try exact rfl))));first|done|fail)) rfl ?_);(refine aY (aM.pre (λ w h=>(show SF _ _ [_,_,(b,fM a)] _ [(bx x5 [fn f cap]:Option Addr×List Value),bx x4 (nd.cells:List Value)] _ w from(h.dB (.tail (.tail .head))).dB (.tail .head))) (cM (V:=λ y:Cd×Fr×AS=>.agg ⟨y.1.cells⟩) (hs:=[(b,fM a)]) (os:=fX a) (hs':=λ y=>[(b,fM y.2.2)]) (os':=λ y=>fX y.2.2) (Fc:=λ y=>y.2.1) (A0:=bx x5 [fn f cap]::bx x4 (nd.cells:List Value)::A) (hA:=bB.db) (hc:=λ w1 hw=>ou ht (hT x4 x5) hol ok hm (λ f hf=>List.mem_cons_of_mem _ (List.mem_cons_of_mem _ (hA f hf))) (Fi hB) hw))) (λ x11=>?_);try (refine eA (λ h11=>?_)));refine bZ (dR λ _=>aK rf bQ rf (cO _) cD rf eE) (λ _=>?_);refine aH ?_)
 all_goals
 refine bE Tryz.results138 (λ w hw=>?_)
 refine⟨(x11.1,x11.2.1++[bx x5 [fn f cap],bx x4 (nd.cells:List Value)],x11.2.2),rfl,⟨⟨hv,?_⟩,h11.2.1,h11.2.2.more (λ f hf=>List.mem_append_left _ hf)⟩,hw.rI⟩
 dsimp only
 rw[ho,List.append_assoc]
 exact h11.1
end
end

/- gcas, root: the tasks. -/
section
open Go Go.RowKit Go.Ct
theorem pZ.app{b:Nat}{p:Tr×Mm}{a:AS}{B B1 F:Fr}{c:Cd}{a':AS}(h:pZ b p a (B1++B) (c,F,a')):pZ b p a B (c,F++B1,a'):=by
 obtain⟨⟨h1,h2⟩,h3,h4⟩:=h
 refine⟨⟨?_,h2⟩,h3,h4.more λ f hf=>List.mem_append_left _ hf⟩
 simp only at h1 ⊢
 rw[List.append_assoc]
 exact h1
section
variable{D:List Nat}{A B:Fr}{a:AS}{b:Nat}{w:World}{f:FuncId}{cap:List Value}{t:gY}
theorem Jk{t:Tr}{i m:Nat}(ht:bY t i m)(h:Sn b t a.mm f cap B)(ok:a.Ok)(hm:a.mm.Small)(hA:∀f∈aR a.L,f∈A)(hB:∀x∈B,x∈A)(hs:SF w D [(b,fM a)] A [] (fX a) w) :
  Calls Tryz.prog 73 #[.iface 42 (.pointer (some ⟨b,0,none⟩)),.func (.func f) #[] ⟨cap⟩] w λ e w'=>∃x:Nat×Cd×Fr×AS,e=.returned (.pointer (some ⟨x.1,0,none⟩))/\(pZ b (Ct.jP t a.mm) a B x.2/\eW (Ct.jP t a.mm).1=true)/\SF w D ([(b,fM x.2.2.2)]++[(x.1,tO b x.2.1 0)]) [] x.2.2.1 (fX x.2.2.2++[]) w' :=
 (cu ht h ok hm hA hB hs).mono λ _ _ ⟨x,e,h,hw⟩=>⟨x,e,h,by rw[List.append_nil];exact hw.perm (List.Perm.swap _ _ _) (List.Perm.refl _)⟩
theorem vx{s:Mm}(v:Int):zC b 103 [] [.int .i64 v] B s (λ c' s' B'=>kW b (.done (lV v false)) s c' s' B'):=by
 intro a D A w em ok hm hA hB hw0
 subst em
 refine enter Tryz.func103 Tryz.ntmps103 rfl rfl hw0 ?_
 simp only[cN]
 all_goals (refine J0 ?_;refine aJ (λ x2=>?_);refine aH ?_;refine J2 ?_;refine bO ?_;refine aY (cV (hc:=λ w1 hw=>Sf (lV v false) w1)) (λ x5=>?_);refine J5 ?_)
 all_goals
 refine bE Tryz.results103 (λ w hw=>?_)
 exact⟨(yT (lV v false),[],a),rfl,⟨⟨rfl,rfl⟩,ok,AS.iQ.refl a⟩,hw.rI⟩
theorem vt{s:Mm}(v:Bool):zC b 98 [] [.bool v] B s (λ c' s' B'=>kW b (.done (lV 0 v)) s c' s' B'):=by
 intro a D A w em ok hm hA hB hw0
 subst em
 refine enter Tryz.func98 Tryz.ntmps98 rfl rfl hw0 ?_
 simp only[cN]
 all_goals (refine J0 ?_;refine aJ (λ x2=>?_);refine aH ?_;refine J2 ?_;refine bO ?_;refine aY (cV (hc:=λ w1 hw=>Sf (lV 0 v) w1)) (λ x5=>?_);refine J5 ?_)
 all_goals
 refine bE Tryz.results98 (λ w hw=>?_)
 exact⟨(yT (lV 0 v),[],a),rfl,⟨⟨rfl,rfl⟩,ok,AS.iQ.refl a⟩,hw.rI⟩
end
end

/- root: Help. -/
section
open Go Go.RowKit Go.Ct
section
variable{D:List Nat}{A B:Fr}{a:AS}{b:Nat}{w:World}{f:FuncId}{cap:List Value}{t:gY}
theorem ai{K:Int->Tr}{v x:Int}{s:Mm}{b1 b2 b3:Nat}(ht:t.root<=9223372036854775807)(hK:zN b K s f cap B)(hv:v<=s.nodes.length):oJ b 147 [pt b1,pt b2,pt b3] [.int .i64 x] (bx b1 (iS b t)::bx b2 [iv v]::bx b3 [fn f cap]::B) s (mV t v x K):=by
 intro a D A w em ok hm hA hB hw0
 subst em
 have hK2:=hK.more (B2:=(bx b1 (iS b t)::bx b2 [iv v]::bx b3 [fn f cap]::B)) (λ x hx=>by simp[hx])
 refine enter Tryz.func147 Tryz.ntmps147 rfl rfl hw0 ?_
 simp only[cN]
 all_goals (refine J0 ?_;refine aJ (λ x5=>?_);refine aH ?_;refine J0 ?_;refine aB (On b1 (iS b t) 0 3 hB rfl rfl) rfl ?_;refine aB (mS b2 [.int .i64 v] 0 hB rfl) rfl ?_;refine aA ?_;refine aB (mS b3 [fn f cap] 0 hB rfl) rfl ?_;refine aC (Bj (λ w1 hw=>oC ht hK2 hv ok hm hA hB hw)) (λ x10 h10=>?_);refine bZ (dR λ _=>aK rf bQ rf (cO _) cD rf eE) (λ _=>?_);refine aH ?_)
 all_goals
 refine bE Tryz.results147 (λ w hw=>?_)
 exact⟨x10,rfl,h10,hw.rN⟩
theorem Yk{K:Int->Tr}{v:Int}{s:Mm}{b0 b1 b2 b3:Nat}{nd:Nd}(ht:t.root<=9223372036854775807)(hK:zN b K s f cap B)(hv:v<=s.nodes.length)(hst:(fV s.nodes v).status=nd.status):oJ b 146 [pt b0,pt b1,pt b2,pt b3] [] (bx b0 (nd.cells:List Value)::bx b1 (iS b t)::bx b2 [iv v]::bx b3 [fn f cap]::B) s (.node v λ n=>.load n.status λ s=>mV t v s K):=by
 intro a D A w em ok hm hA hB hw0
 subst em
 have hd:nd.status<=9223372036854775807:=by rw[<- hst];exact mE hm (ok.mo.at v).status
 refine enter Tryz.func146 Tryz.ntmps146 rfl rfl hw0 ?_
 simp only[cN]
 all_goals (refine J0 ?_;refine aJ (λ x4=>?_);refine aH ?_;refine J0 ?_;refine aE ?_;refine aB (mS b0 (nd.cells:List Value) 13 hB rfl) rfl ?_;(refine aB (cI (by(repeat (first|exact cP _|(apply cC;focus ((conv=>{lhs;whnf});try exact rfl))));first|done|fail)) rfl ?_);refine aY (cV (hc:=λ w1 hw=>nP _ _ _ w1)) (λ x8=>?_);refine bZ (dR λ _=>aK rf bQ rf (cO _) cD rf eE) (λ _=>?_);refine aH ?_)
 all_goals
 refine bE Tryz.results146 (λ w hw=>?_)
 refine⟨(nJ nd.status _ _,[],a),rfl,⟨⟨hv,?_⟩,ok,AS.iQ.refl a⟩,hw.rI⟩
 dsimp only
 rw[hst]
 exact⟨rfl,hd,_,_,rfl,by kernel_rfl,λ x s1 l hx=>(ai (b1:=b1) (b2:=b2) (b3:=b3) ht (hK.le l) (by have:=l.len;omega)).mr (λ y hy=>List.mem_cons_of_mem _ hy)⟩
theorem cj{K:Int->Tr}{v x:Int}{s:Mm}{b0 b1 b2 b3:Nat}{nd:Nd}(ht:t.root<=9223372036854775807)(hK:zN b K s f cap B)(hv:v<=s.nodes.length)(ho:(fV s.nodes v).bF=nd.bF)(he:(fV s.nodes v).exp=nd.exp)(hst:(fV s.nodes v).status=nd.status):oJ b 145 [pt b1,pt b2,pt b3,pt b0] [.int .i64 x] (bx b1 (iS b t)::bx b2 [iv v]::bx b3 [fn f cap]::bx b0 (nd.cells:List Value)::B) s (if x=0 then oO t v (.node v λ n=>.load n.status λ s=>mV t v s K) else mV t v x K):=by
 intro a D A w em ok hm hA hB hw0
 subst em
 have hK2:=hK.more (B2:=(bx b1 (iS b t)::bx b2 [iv v]::bx b3 [fn f cap]::bx b0 (nd.cells:List Value)::B)) (λ x hx=>by simp[hx])
 have hT:Sn b (.node v λ n=>.load n.status λ s=>mV t v s K) a.mm 146 [.pointer (some ⟨b0,0,none⟩),.pointer (some ⟨b1,0,none⟩),.pointer (some ⟨b2,0,none⟩),.pointer (some ⟨b3,0,none⟩)] (bx b1 (iS b t)::bx b2 [iv v]::bx b3 [fn f cap]::bx b0 (nd.cells:List Value)::B):=⟨by kernel_rfl,λ s1 l=>(Yk (b0:=b0) (b1:=b1) (b2:=b2) (b3:=b3) (nd:=nd) ht (hK.le l) (by have:=l.len;omega) (by rw[l.nd hv];exact hst)).mr (λ y hy=>by
  simp only[List.mem_cons] at hy ⊢
  rcases hy with h|h|h|h|h<;>simp[h])⟩
 refine enter Tryz.func145 Tryz.ntmps145 rfl rfl hw0 ?_
 simp only[cN]
 all_goals (refine J0 ?_;refine aJ (λ x6=>?_);refine aH ?_;refine lW ?_;refine pP ?_;refine aH ?_)
 all_goals
 refine bG (λ c8=>?_) (λ c8=>?_)
 ·all_goals (refine J0 ?_;refine aB (On b1 (iS b t) 0 3 hB rfl rfl) rfl ?_;refine aB (mS b2 [.int .i64 v] 0 hB rfl) rfl ?_;refine aA ?_;refine aB (mS b3 [fn f cap] 0 hB rfl) rfl ?_;refine aC (Bj (λ w1 hw=>oC ht hK2 hv ok hm hA hB hw)) (λ x13 h13=>?_);refine bZ (dR λ _=>aK rf bQ rf (cO _) cD rf eE) (λ _=>?_);refine aH ?_)
  all_goals
   refine bE Tryz.results145 (λ w hw=>?_)
   refine⟨x13,rfl,⟨?_,h13.2⟩,hw.rN⟩
   rw[if_neg (by omega)]
   exact h13.1
 ·all_goals (refine bD ?_;refine J0 ?_;refine aB (On b1 (iS b t) 0 3 hB rfl rfl) rfl ?_;refine aB (On b0 (nd.cells:List Value) 0 14 hB rfl rfl) rfl ?_;(refine aB (cI (by(repeat (first|exact cP _|(apply cC;focus ((conv=>{lhs;whnf});try exact rfl))));first|done|fail)) rfl ?_);refine aC (Bj (λ w1 hw=>Iy (nd:=nd) ht hT hv ho he hst ok hm hA hB hw)) (λ x17 h17=>?_);refine bZ (dR λ _=>aK rf bQ rf (cO _) cD rf eE) (λ _=>?_);refine aH ?_)
  all_goals
   refine bE Tryz.results145 (λ w hw=>?_)
   refine⟨x17,rfl,⟨?_,h17.2⟩,hw.rN⟩
   rw[if_pos (by omega)]
   exact h17.1
theorem cp{K:Int->Tr}{v:Int}{s:Mm}{b1 b3:Nat}(ht:t.root<=9223372036854775807)(hK:zN b K s f cap B)(hv:v<=s.nodes.length):oJ b 144 [pt b1,pt b3] [.int .i64 v] (bx b1 (iS b t)::bx b3 [fn f cap]::B) s (.node v λ n=>if n.kind=2 then K v else .node v λ n=>.load n.status λ s=>if s=0 then oO t v (.node v λ n=>.load n.status λ s=>mV t v s K) else mV t v s K):=by
 intro a D A w em ok hm hA hB hw0
 subst em
 have hK2:=hK.more (B2:=(bx b1 (iS b t)::bx b3 [fn f cap]::B)) (λ x hx=>by simp[hx])
 have nv:=C3 ok v
 refine enter Tryz.func144 Tryz.ntmps144 rfl rfl hw0 ?_
 simp only[cN]
 all_goals (refine J0 ?_;refine bW (λ x3=>?_);refine aJ (λ x4=>?_);refine aH ?_;refine J0 ?_;refine aE ?_;refine aB (mS b1 (iS b t) 0 hB rfl) rfl ?_;refine bX ?_;refine aC (Hz v ok hm hA hv) (λ x9 h9=>?_);refine aJ (λ x5=>?_);refine J5 ?_;refine Cs ?_;refine uS ?_)
 all_goals
 refine bG (λ c12=>?_) (λ c12=>?_)
 ·all_goals (refine J0 ?_;refine aB (mS b3 [fn f cap] 0 hB rfl) rfl ?_;refine bX ?_;refine aC (Kj hK2.1 (hK2.2 v a.mm (Mm.Le.refl _) hv) ok hm hA hB) (λ x15 h15=>?_);refine bZ (dR λ _=>aK rf bQ rf (cO _) cD rf eE) (λ _=>?_);refine aH ?_)
  all_goals
   refine bE Tryz.results144 (λ w hw=>?_)
   refine⟨x15,rfl,⟨⟨hv,?_⟩,h15.2⟩,hw.rN⟩
   rw[iW]
   dsimp only
   rw[if_pos (by assumption)]
   exact h15.1
 ·all_goals (refine bD ?_;refine iZ ?_;(refine aB (cI (by(repeat (first|exact cP _|(apply cC;focus ((conv=>{lhs;whnf});try exact rfl))));first|done|fail)) rfl ?_);refine aY (cV (hc:=λ w1 hw=>nP _ _ _ w1)) (λ x19=>?_);refine bZ (dR λ _=>aK rf bQ rf (cO _) cD rf eE) (λ _=>?_);refine aH ?_)
  all_goals
   refine bE Tryz.results144 (λ w hw=>?_)
   refine⟨(nJ (aD (dG a.L) v).nd.status _ _,[bx x5 (((aD (dG a.L) v).at_ x9.1 x9.2).nd.cells:List Value),bx x3 [iv v]],a),rfl,⟨⟨hv,?_⟩,ok,(AS.iQ.refl a).more (λ _ h=>(List.not_mem_nil h).elim)⟩,?_⟩
   ·rw[iW]
    dsimp only
    rw[if_neg (by assumption)]
    refine⟨hv,?_⟩
    rw[iW]
    refine⟨rfl,mE hm nv.status,_,_,rfl,by kernel_rfl,λ x s1 l hx=>?_⟩
    have hlen:=l.len
    exact(cj (b0:=x5) (b1:=b1) (b2:=x3) (b3:=b3) (nd:=((aD (dG a.L) v).at_ x9.1 x9.2).nd) ht (hK.le l) (by omega) (by rw[l.nd hv,iW];rfl) (by rw[l.nd hv,iW];rfl) (by rw[l.nd hv,iW];rfl)).mr (λ y hy=>by
    simp only[List.mem_cons,List.append_eq,List.nil_append,List.mem_append,List.not_mem_nil,or_false] at hy ⊢
    rcases hy with h|h|h|h|h<;>simp[h])
   ·exact((hw.dB (.tail (.tail .head))).dB .head).rI
theorem ns{K:Int->Tr}(ht:t.root<=9223372036854775807)(hK:zN b K a.mm f cap B)(ok:a.Ok)(hm:a.mm.Small)(hA:∀f∈aR a.L,f∈A)(hB:∀x∈B,x∈A)(hs:SF w D [(b,fM a)] A [] (fX a) w) :
  Calls Tryz.prog 102 #[.agg ⟨iS b t⟩,fn f cap] w (An b (λ c' s' B'=>kW b (pV t K) a.mm c' s' B') a B D w):=by
 refine enter Tryz.func102 Tryz.ntmps102 rfl rfl hs ?_
 simp only[cN]
 all_goals (refine J0 ?_;refine bW (λ x2=>?_);refine bW (λ x3=>?_);refine aJ (λ x4=>?_);refine aH ?_;refine J0 ?_;refine aE ?_;refine J3 ?_;(refine aB (cI (by(repeat (first|exact cP _|(apply cC;focus ((conv=>{lhs;whnf});try exact rfl))));first|done|fail)) rfl ?_);refine aY (cV (hc:=λ w1 hw=>nP _ _ _ w1)) (λ x9=>?_);refine bZ (dR λ _=>aK rf bQ rf (cO _) cD rf eE) (λ _=>?_);refine aH ?_)
 all_goals
 refine bE Tryz.results102 (λ w hw=>?_)
 refine⟨(nJ t.root _ _,[bx x2 (iS b t),bx x3 [fn f cap]],a),rfl,⟨⟨rfl,ht,_,_,rfl,by kernel_rfl,λ v s1 l hv=>cp (b1:=x2) (b3:=x3) ht (hK.le l) hv⟩,ok,(AS.iQ.refl a).more (λ _ h=>(List.not_mem_nil h).elim)⟩,?_⟩
 exact((hw.dB (.tail .head)).dB (.tail .head)).rI
end
end

end Go.Proofs.YtbajmaoegmbfgaaGreat
