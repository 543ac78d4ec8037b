/- gcas: Read, Swap. -/
import Derived.Test.YtbajmaoegmbfgaaGreatGGc2
import Derived.Test.YtbajmaoegmbfgaaGreatGWo3

set_option linter.unusedSimpArgs false
set_option linter.unusedVariables false
namespace Go.Proofs.YtbajmaoegmbfgaaGreat
section
open Go Go.RowKit Go.Ct
section
variable{D:List Nat}{A B:Fr}{a:AS}{b:Nat}{w:World}{f:FuncId}{cap:List Value}{t:eQ}
theorem ft{K:Int->Tr}{i m:Int}{s:Mm}{bt bo bi:Nat}(ht:t.root<=9223372036854775807)(hK:Ah b K s f cap B)(hi:i<=s.nodes.length)(hmm:m<=s.nodes.length):pA b 131 [pt bo,pt bi,pt bt] [.int .i64 m] (bx bo (iV b t)::bx bi [iv i]::bx bt [fn f cap]::B) s (mI t i m K):=by
 intro a D A w em ok hm hA hB hw0
 subst em
 have hK2:=hK.more (B2:=(bx bo (iV b t)::bx bi [iv i]::bx bt [fn f cap]::B)) (λ x hx=>by simp[hx])
 refine enter Tryz.func131 Tryz.ntmps131 rfl rfl hw0 ?_
 simp only[cA]
 refine J0 ?_;refine aJ (λ x5=>?_);refine aG ?_;refine J0 ?_;refine aC (Qv bo (iV b t) 0 3 hB rfl rfl) rfl ?_;refine aC (nQ bi [.int .i64 i] 0 hB rfl) rfl ?_;refine aA ?_;refine aC (nQ bt [fn f cap] 0 hB rfl) rfl ?_;refine aD (Cn (λ w1 hw=>Yl ht hK2 hi hmm ok hm hA hB hw)) (λ x10 h10=>?_);refine bY (gV λ _=>aZ rf cY rf (cK _) eF rf jI) (λ _=>?_);refine aG ?_
 refine aY Tryz.results131 (λ w hw=>?_)
 exact⟨x10,rfl,h10,hw.rN⟩
theorem og{K:Int->Tr}{i:Int}(ht:t.root<=9223372036854775807)(hK:Ah b K a.mm f cap B)(hi:i<=a.mm.nodes.length)(ok:a.Ok)(hm:a.mm.Small)(hA:∀f∈aL a.L,f∈A)(hB:∀x∈B,x∈A)(hs:SF w D [(b,dV a)] A [] (eC a) w) :
  Calls Tryz.prog 88 #[.agg ⟨iV b t⟩,.int .i64 i,fn f cap] w (Av b (λ c' s' B'=>lW b (lR t i K) a.mm c' s' B') a B D w):=by
 have ni:=D4 ok i
 refine enter Tryz.func88 Tryz.ntmps88 rfl rfl hs ?_
 simp only[cA]
 refine J0 ?_;refine bK (λ x3=>?_);refine bK (λ x4=>?_);refine bK (λ x5=>?_);refine aJ (λ x6=>?_);refine aG ?_;refine iB ?_;refine bM ?_;refine aD (I6 i ok hm hA hi) (λ x10 h10=>?_);refine cC ?_;(refine aC bZ rfl ?_);refine aN (cV (hc:=λ w1 hw=>nY _ _ _ w1)) (λ x13=>?_);refine bY (gV λ _=>aZ rf cY rf (cK _) eF rf jI) (λ _=>?_);refine aG ?_
 refine aY Tryz.results88 (λ w hw=>?_)
 refine⟨(nU (aB (cN a.L) i).nd.main _ _,[bx x3 (iV b t),bx x4 [iv i],bx x5 [fn f cap]],a),rfl,⟨⟨hi,?_⟩,ok,(AS.iD.refl a).more (λ _ h=>(List.not_mem_nil h).elim)⟩,?_⟩
 ·rw[iN]
  exact⟨rfl,mK hm ni.main,_,_,rfl,by kernel_rfl,λ m s1 l hmm=>ft (bo:=x3) (bi:=x4) (bt:=x5) ht (hK.le l) (by have:=l.len;omega) hmm⟩
 ·exact(((hw.cQ (.tail .head)).cQ (.tail .head)).cQ (.tail .head)).rI
end
end

/- root: decide. -/
end Go.Proofs.YtbajmaoegmbfgaaGreat
namespace Go.Ct
section
open Go Go.RowKit
theorem bG.pre{P:Program}{S:List (Nat×Value)}{G G2:World->Prop}{o:Oper}{X:Type}{V:X->Value}{G':X->World->Prop}(h:∀w,G w->G2 w)(hl:bG P S G2 o X V G'):bG P S G o X V G':=⟨λ w hw=>hl.run w (h w hw)⟩
end
end Go.Ct
namespace Go.Proofs.YtbajmaoegmbfgaaGreat
section
open Go Go.RowKit Go.Ct
section
variable{D:List Nat}{A B:Fr}{a:AS}{b:Nat}{w:World}{f:FuncId}{cap:List Value}{t:eQ}
theorem Vr{Kt:Tr}{s:Mm}{b5:Nat}(hK:Vi b Kt s f cap B)(o:Bool):pA b 173 [pt b5] [.bool o] (bx b5 [fn f cap]::B) s (Kt):=by
 intro a D A w em ok hm hA hB hw0
 subst em
 have hK2:=hK.more (B2:=(bx b5 [fn f cap]::B)) (λ x hx=>by simp[hx])
 refine enter Tryz.func173 Tryz.ntmps173 rfl rfl hw0 ?_
 simp only[cA]
 refine J0 ?_;refine aJ (λ x3=>?_);refine aG ?_;refine J0 ?_;refine aC (nQ b5 [fn f cap] 0 hB rfl) rfl ?_;refine aD (Na hK2.1 (hK2.2 a.mm (Mm.Le.refl _)) ok hm hA hB) (λ x5 h5=>?_);refine bY (gV λ _=>aZ rf cY rf (cK _) eF rf jI) (λ _=>?_);refine aG ?_
 refine aY Tryz.results173 (λ w hw=>?_)
 exact⟨x5,rfl,h5,hw.rN⟩
theorem ot{Kt:Tr}{v r:Int}{s:Mm}{b4 b5:Nat}{nd:Nd}(hK:Vi b Kt s f cap B)(hv:v<=s.nodes.length)(he:(bQ s.nodes v).exp=nd.exp)(hst:(bQ s.nodes v).status=nd.status)(hd:nd.status<=9223372036854775807):pA b 172 [pt b4,pt b5] [.int .i64 r] (bx b4 (nd.cells:List Value)::bx b5 [fn f cap]::B) s (.node v λ n2=>.node v λ n3=>.hY n3.status 0 (if r=n2.exp then 1 else 2) λ _=>Kt):=by
 intro a D A w em ok hm hA hB hw0
 subst em
 refine enter Tryz.func172 Tryz.ntmps172 rfl rfl hw0 ?_
 simp only[cA]
 refine J0 ?_;refine aJ (λ x4=>?_);refine aG ?_;refine Kb3 ?_;refine aF ?_;refine aC (nQ b4 (nd.cells:List Value) 11 hB rfl) rfl ?_;refine sU ?_
 refine bD (λ c9=>?_) (λ c9=>?_)
 ·refine dG ?_;refine J1 ?_;refine Ka7 ?_;refine aC (nQ b4 (nd.cells:List Value) 13 hB rfl) rfl ?_;refine aA ?_;(refine aC bZ rfl ?_);refine aN (cV (hc:=λ w1 hw=>sX _ _ _ _ _ w1)) (λ x14=>?_);refine bY (gV λ _=>aZ rf cY rf (cK _) eF rf jI) (λ _=>?_);refine aG ?_
  refine aY Tryz.results172 (λ w hw=>?_)
  refine⟨(uM nd.status 0 1 _ _,[],a),rfl,⟨⟨hv,hv,?_⟩,ok,AS.iD.refl a⟩,hw.rI⟩
  dsimp only
  rw[he,hst,if_pos (by omega)]
  exact⟨rfl,hd,by have:=ok.mo.two;omega,_,_,rfl,by kernel_rfl,λ o s1 l=>(Vr (b5:=b5) (hK.le l) o).mr (λ y hy=>List.mem_cons_of_mem _ hy)⟩
 ·refine aW ?_;refine Ka7 ?_;refine aC (nQ b4 (nd.cells:List Value) 13 hB rfl) rfl ?_;refine aA ?_;(refine aC bZ rfl ?_);refine aN (cV (hc:=λ w1 hw=>sX _ _ _ _ _ w1)) (λ x14=>?_);refine bY (gV λ _=>aZ rf cY rf (cK _) eF rf jI) (λ _=>?_);refine aG ?_
  refine aY Tryz.results172 (λ w hw=>?_)
  refine⟨(uM nd.status 0 2 _ _,[],a),rfl,⟨⟨hv,hv,?_⟩,ok,AS.iD.refl a⟩,hw.rI⟩
  dsimp only
  rw[he,hst,if_neg (by omega)]
  exact⟨rfl,hd,by have:=ok.mo.two;omega,_,_,rfl,by kernel_rfl,λ o s1 l=>(Vr (b5:=b5) (hK.le l) o).mr (λ y hy=>List.mem_cons_of_mem _ hy)⟩
theorem Kf{Kt:Tr}{v:Int}{nd:Nd}(ht:t.root<=9223372036854775807)(hK:Vi b Kt a.mm f cap B)(hv:v<=a.mm.nodes.length)(ho:(bQ a.mm.nodes v).bA=nd.bA)(he:(bQ a.mm.nodes v).exp=nd.exp)(hst:(bQ a.mm.nodes v).status=nd.status)(ok:a.Ok)(hm:a.mm.Small)(hA:∀f∈aL a.L,f∈A)(hB:∀x∈B,x∈A)(hs:SF w D [(b,dV a)] A [] (eC a) w) :
  Calls Tryz.prog 138 #[.agg ⟨iV b t⟩,nd.v,fn f cap] w (Av b (λ c' s' B'=>lW b (lG t v Kt) a.mm c' s' B') a B D w):=by
 have hol:nd.bA<=a.mm.nodes.length:=by rw[<- ho];exact(ok.mo.at v).bA
 have hd:nd.status<=9223372036854775807:=by rw[<- hst];exact mK hm (ok.mo.at v).status
 have hT:∀x4 x5:Nat,Ah b (λ r=>.node v λ n2=>.node v λ n3=>.hY n3.status 0 (if r=n2.exp then 1 else 2) λ _=>Kt) a.mm 172 [.pointer (some ⟨x4,0,none⟩),.pointer (some ⟨x5,0,none⟩)] (bx x5 [fn f cap]::bx x4 (nd.cells:List Value)::B):=λ x4 x5=>⟨by kernel_rfl,λ r s1 l hr=>(ot (b4:=x4) (b5:=x5) (nd:=nd) (hK.le l) (by have:=l.len;omega) (by rw[l.nd hv];exact he) (by rw[l.nd hv];exact hst) hd).mr (λ y hy=>by
  simp only[List.mem_cons] at hy ⊢
  rcases hy with h|h|h<;>simp[h])⟩
 refine enter Tryz.func138 Tryz.ntmps138 rfl rfl hs ?_
 simp only[cA]
 simp only[Nd.v,Nd.cells]
 refine J0 ?_;refine bK (λ x3=>?_);refine bK (λ x4=>?_);refine bK (λ x5=>?_);refine aJ (λ x6=>?_);refine aG ?_;refine nF ?_;refine J3 ?_;(refine aC bZ rfl ?_);(refine aN (bG.pre (λ w h=>(show SF _ _ [_,_,(b,dV a)] _ [(bx x5 [fn f cap]:Option Addr×List Value),bx x4 (nd.cells:List Value)] _ w from(h.cQ (.tail (.tail .head))).cQ (.tail .head))) (cM (V:=λ y:Cd×Fr×AS=>.agg ⟨y.1.cells⟩) (hs:=[(b,dV a)]) (os:=eC a) (hs':=λ y=>[(b,dV y.2.2)]) (os':=λ y=>eC y.2.2) (Fc:=λ y=>y.2.1) (A0:=bx x5 [fn f cap]::bx x4 (nd.cells:List Value)::A) (hA:=bB.ll) (hc:=λ w1 hw=>og ht (hT x4 x5) hol ok hm (λ f hf=>List.mem_cons_of_mem _ (List.mem_cons_of_mem _ (hA f hf))) (Fs hB) hw))) (λ x11=>?_);try (refine eN (λ h11=>?_)));refine bY (gV λ _=>aZ rf cY rf (cK _) eF rf jI) (λ _=>?_);refine aG ?_
 refine aY Tryz.results138 (λ w hw=>?_)
 refine⟨(x11.1,x11.2.1++[bx x5 [fn f cap],bx x4 (nd.cells:List Value)],x11.2.2),rfl,⟨⟨hv,?_⟩,h11.2.1,h11.2.2.more (λ f hf=>List.mem_append_left _ hf)⟩,hw.rI⟩
 dsimp only
 rw[ho,List.append_assoc]
 exact h11.1
end
end

/- gcas, root: the tasks. -/
section
open Go Go.RowKit Go.Ct
theorem pX.app{b:Nat}{p:Tr×Mm}{a:AS}{B B1 F:Fr}{c:Cd}{a':AS}(h:pX b p a (B1++B) (c,F,a')):pX b p a B (c,F++B1,a'):=by
 obtain⟨⟨h1,h2⟩,h3,h4⟩:=h
 refine⟨⟨?_,h2⟩,h3,h4.more λ f hf=>List.mem_append_left _ hf⟩
 simp only at h1 ⊢
 rw[List.append_assoc]
 exact h1
section
variable{D:List Nat}{A B:Fr}{a:AS}{b:Nat}{w:World}{f:FuncId}{cap:List Value}{t:eQ}
theorem K2{t:Tr}{i m:Nat}(ht:bS t i m)(h:Vi b t a.mm f cap B)(ok:a.Ok)(hm:a.mm.Small)(hA:∀f∈aL a.L,f∈A)(hB:∀x∈B,x∈A)(hs:SF w D [(b,dV a)] A [] (eC a) w) :
  Calls Tryz.prog 73 #[.iface 42 (.pointer (some ⟨b,0,none⟩)),.func (.func f) #[] ⟨cap⟩] w λ e w'=>∃x:Nat×Cd×Fr×AS,e=.returned (.pointer (some ⟨x.1,0,none⟩))/\(pX b (Ct.eD t a.mm) a B x.2/\eS (Ct.eD t a.mm).1=true)/\SF w D ([(b,dV x.2.2.2)]++[(x.1,tO b x.2.1 0)]) [] x.2.2.1 (eC x.2.2.2++[]) w' :=
 (db ht h ok hm hA hB hs).mono λ _ _ ⟨x,e,h,hw⟩=>⟨x,e,h,by rw[List.append_nil];exact hw.perm (List.Perm.swap _ _ _) (List.Perm.refl _)⟩
theorem zm{s:Mm}(v:Int):zQ b 103 [] [.int .i64 v] B s (λ c' s' B'=>lW b (.done (gC v false)) s c' s' B'):=by
 intro a D A w em ok hm hA hB hw0
 subst em
 refine enter Tryz.func103 Tryz.ntmps103 rfl rfl hw0 ?_
 simp only[cA]
 refine J0 ?_;refine aJ (λ x2=>?_);refine aG ?_;refine J2 ?_;refine bI ?_;refine aN (cV (hc:=λ w1 hw=>Xa (gC v false) w1)) (λ x5=>?_);refine J5 ?_
 refine aY Tryz.results103 (λ w hw=>?_)
 exact⟨(rO (gC v false),[],a),rfl,⟨⟨rfl,rfl⟩,ok,AS.iD.refl a⟩,hw.rI⟩
theorem zx{s:Mm}(v:Bool):zQ b 98 [] [.bool v] B s (λ c' s' B'=>lW b (.done (gC 0 v)) s c' s' B'):=by
 intro a D A w em ok hm hA hB hw0
 subst em
 refine enter Tryz.func98 Tryz.ntmps98 rfl rfl hw0 ?_
 simp only[cA]
 refine J0 ?_;refine aJ (λ x2=>?_);refine aG ?_;refine J2 ?_;refine bI ?_;refine aN (cV (hc:=λ w1 hw=>Xa (gC 0 v) w1)) (λ x5=>?_);refine J5 ?_
 refine aY Tryz.results98 (λ w hw=>?_)
 exact⟨(rO (gC 0 v),[],a),rfl,⟨⟨rfl,rfl⟩,ok,AS.iD.refl a⟩,hw.rI⟩
end
end

/- root: Help. -/
section
open Go Go.RowKit Go.Ct
section
variable{D:List Nat}{A B:Fr}{a:AS}{b:Nat}{w:World}{f:FuncId}{cap:List Value}{t:eQ}
theorem ij{K:Int->Tr}{v x:Int}{s:Mm}{b1 b2 b3:Nat}(ht:t.root<=9223372036854775807)(hK:Ah b K s f cap B)(hv:v<=s.nodes.length):pA b 147 [pt b1,pt b2,pt b3] [.int .i64 x] (bx b1 (iV b t)::bx b2 [iv v]::bx b3 [fn f cap]::B) s (iE t v x K):=by
 intro a D A w em ok hm hA hB hw0
 subst em
 have hK2:=hK.more (B2:=(bx b1 (iV b t)::bx b2 [iv v]::bx b3 [fn f cap]::B)) (λ x hx=>by simp[hx])
 refine enter Tryz.func147 Tryz.ntmps147 rfl rfl hw0 ?_
 simp only[cA]
 refine J0 ?_;refine aJ (λ x5=>?_);refine aG ?_;refine J0 ?_;refine aC (Qv b1 (iV b t) 0 3 hB rfl rfl) rfl ?_;refine aC (nQ b2 [.int .i64 v] 0 hB rfl) rfl ?_;refine aA ?_;refine aC (nQ b3 [fn f cap] 0 hB rfl) rfl ?_;refine aD (Cn (λ w1 hw=>oR ht hK2 hv ok hm hA hB hw)) (λ x10 h10=>?_);refine bY (gV λ _=>aZ rf cY rf (cK _) eF rf jI) (λ _=>?_);refine aG ?_
 refine aY Tryz.results147 (λ w hw=>?_)
 exact⟨x10,rfl,h10,hw.rN⟩
theorem m9{K:Int->Tr}{v:Int}{s:Mm}{b0 b1 b2 b3:Nat}{nd:Nd}(ht:t.root<=9223372036854775807)(hK:Ah b K s f cap B)(hv:v<=s.nodes.length)(hst:(bQ s.nodes v).status=nd.status):pA b 146 [pt b0,pt b1,pt b2,pt b3] [] (bx b0 (nd.cells:List Value)::bx b1 (iV b t)::bx b2 [iv v]::bx b3 [fn f cap]::B) s (.node v λ n=>.load n.status λ s=>iE t v s K):=by
 intro a D A w em ok hm hA hB hw0
 subst em
 have hd:nd.status<=9223372036854775807:=by rw[<- hst];exact mK hm (ok.mo.at v).status
 refine enter Tryz.func146 Tryz.ntmps146 rfl rfl hw0 ?_
 simp only[cA]
 refine J0 ?_;refine aJ (λ x4=>?_);refine aG ?_;refine Ka7 ?_;refine aC (nQ b0 (nd.cells:List Value) 13 hB rfl) rfl ?_;(refine aC bZ rfl ?_);refine aN (cV (hc:=λ w1 hw=>nY _ _ _ w1)) (λ x8=>?_);refine bY (gV λ _=>aZ rf cY rf (cK _) eF rf jI) (λ _=>?_);refine aG ?_
 refine aY Tryz.results146 (λ w hw=>?_)
 refine⟨(nU nd.status _ _,[],a),rfl,⟨⟨hv,?_⟩,ok,AS.iD.refl a⟩,hw.rI⟩
 dsimp only
 rw[hst]
 exact⟨rfl,hd,_,_,rfl,by kernel_rfl,λ x s1 l hx=>(ij (b1:=b1) (b2:=b2) (b3:=b3) ht (hK.le l) (by have:=l.len;omega)).mr (λ y hy=>List.mem_cons_of_mem _ hy)⟩
theorem jg{K:Int->Tr}{v x:Int}{s:Mm}{b0 b1 b2 b3:Nat}{nd:Nd}(ht:t.root<=9223372036854775807)(hK:Ah b K s f cap B)(hv:v<=s.nodes.length)(ho:(bQ s.nodes v).bA=nd.bA)(he:(bQ s.nodes v).exp=nd.exp)(hst:(bQ s.nodes v).status=nd.status):pA b 145 [pt b1,pt b2,pt b3,pt b0] [.int .i64 x] (bx b1 (iV b t)::bx b2 [iv v]::bx b3 [fn f cap]::bx b0 (nd.cells:List Value)::B) s (if x=0 then lG t v (.node v λ n=>.load n.status λ s=>iE t v s K) else iE t v x K):=by
 intro a D A w em ok hm hA hB hw0
 subst em
 have hK2:=hK.more (B2:=(bx b1 (iV b t)::bx b2 [iv v]::bx b3 [fn f cap]::bx b0 (nd.cells:List Value)::B)) (λ x hx=>by simp[hx])
 have hT:Vi b (.node v λ n=>.load n.status λ s=>iE t v s K) a.mm 146 [.pointer (some ⟨b0,0,none⟩),.pointer (some ⟨b1,0,none⟩),.pointer (some ⟨b2,0,none⟩),.pointer (some ⟨b3,0,none⟩)] (bx b1 (iV b t)::bx b2 [iv v]::bx b3 [fn f cap]::bx b0 (nd.cells:List Value)::B):=⟨by kernel_rfl,λ s1 l=>(m9 (b0:=b0) (b1:=b1) (b2:=b2) (b3:=b3) (nd:=nd) ht (hK.le l) (by have:=l.len;omega) (by rw[l.nd hv];exact hst)).mr (λ y hy=>by
  simp only[List.mem_cons] at hy ⊢
  rcases hy with h|h|h|h|h<;>simp[h])⟩
 refine enter Tryz.func145 Tryz.ntmps145 rfl rfl hw0 ?_
 simp only[cA]
 refine J0 ?_;refine aJ (λ x6=>?_);refine aG ?_;refine kR ?_;refine Kc6 ?_
 refine bD (λ c8=>?_) (λ c8=>?_)
 ·refine J0 ?_;refine aC (Qv b1 (iV b t) 0 3 hB rfl rfl) rfl ?_;refine aC (nQ b2 [.int .i64 v] 0 hB rfl) rfl ?_;refine aA ?_;refine aC (nQ b3 [fn f cap] 0 hB rfl) rfl ?_;refine aD (Cn (λ w1 hw=>oR ht hK2 hv ok hm hA hB hw)) (λ x13 h13=>?_);refine bY (gV λ _=>aZ rf cY rf (cK _) eF rf jI) (λ _=>?_);refine aG ?_
  refine aY Tryz.results145 (λ w hw=>?_)
  refine⟨x13,rfl,⟨?_,h13.2⟩,hw.rN⟩
  rw[if_neg (by omega)]
  exact h13.1
 ·refine aW ?_;refine J0 ?_;refine aC (Qv b1 (iV b t) 0 3 hB rfl rfl) rfl ?_;refine aC (Qv b0 (nd.cells:List Value) 0 14 hB rfl rfl) rfl ?_;(refine aC bZ rfl ?_);refine aD (Cn (λ w1 hw=>Kf (nd:=nd) ht hT hv ho he hst ok hm hA hB hw)) (λ x17 h17=>?_);refine bY (gV λ _=>aZ rf cY rf (cK _) eF rf jI) (λ _=>?_);refine aG ?_
  refine aY Tryz.results145 (λ w hw=>?_)
  refine⟨x17,rfl,⟨?_,h17.2⟩,hw.rN⟩
  rw[if_pos (by omega)]
  exact h17.1
theorem j2{K:Int->Tr}{v:Int}{s:Mm}{b1 b3:Nat}(ht:t.root<=9223372036854775807)(hK:Ah b K s f cap B)(hv:v<=s.nodes.length):pA b 144 [pt b1,pt b3] [.int .i64 v] (bx b1 (iV b t)::bx b3 [fn f cap]::B) s (.node v λ n=>if n.kind=2 then K v else .node v λ n=>.load n.status λ s=>if s=0 then lG t v (.node v λ n=>.load n.status λ s=>iE t v s K) else iE t v s K):=by
 intro a D A w em ok hm hA hB hw0
 subst em
 have hK2:=hK.more (B2:=(bx b1 (iV b t)::bx b3 [fn f cap]::B)) (λ x hx=>by simp[hx])
 have nv:=D4 ok v
 refine enter Tryz.func144 Tryz.ntmps144 rfl rfl hw0 ?_
 simp only[cA]
 refine J0 ?_;refine bK (λ x3=>?_);refine aJ (λ x4=>?_);refine aG ?_;refine Ka7 ?_;refine aC (nQ b1 (iV b t) 0 hB rfl) rfl ?_;refine bM ?_;refine aD (I6 v ok hm hA hv) (λ x9 h9=>?_);refine aJ (λ x5=>?_);refine J5 ?_;refine Kc5 ?_
 refine bD (λ c12=>?_) (λ c12=>?_)
 ·refine J0 ?_;refine aC (nQ b3 [fn f cap] 0 hB rfl) rfl ?_;refine bM ?_;refine aD (Na hK2.1 (hK2.2 v a.mm (Mm.Le.refl _) hv) ok hm hA hB) (λ x15 h15=>?_);refine bY (gV λ _=>aZ rf cY rf (cK _) eF rf jI) (λ _=>?_);refine aG ?_
  refine aY Tryz.results144 (λ w hw=>?_)
  refine⟨x15,rfl,⟨⟨hv,?_⟩,h15.2⟩,hw.rN⟩
  rw[iN]
  dsimp only
  rw[if_pos (by assumption)]
  exact h15.1
 ·refine aW ?_;refine iB ?_;(refine aC bZ rfl ?_);refine aN (cV (hc:=λ w1 hw=>nY _ _ _ w1)) (λ x19=>?_);refine bY (gV λ _=>aZ rf cY rf (cK _) eF rf jI) (λ _=>?_);refine aG ?_
  refine aY Tryz.results144 (λ w hw=>?_)
  refine⟨(nU (aB (cN a.L) v).nd.status _ _,[bx x5 (((aB (cN a.L) v).at_ x9.1 x9.2).nd.cells:List Value),bx x3 [iv v]],a),rfl,⟨⟨hv,?_⟩,ok,(AS.iD.refl a).more (λ _ h=>(List.not_mem_nil h).elim)⟩,?_⟩
  ·rw[iN]
   dsimp only
   rw[if_neg (by assumption)]
   refine⟨hv,?_⟩
   rw[iN]
   refine⟨rfl,mK hm nv.status,_,_,rfl,by kernel_rfl,λ x s1 l hx=>?_⟩
   have hlen:=l.len
   exact(jg (b0:=x5) (b1:=b1) (b2:=x3) (b3:=b3) (nd:=((aB (cN a.L) v).at_ x9.1 x9.2).nd) ht (hK.le l) (by omega) (by rw[l.nd hv,iN];rfl) (by rw[l.nd hv,iN];rfl) (by rw[l.nd hv,iN];rfl)).mr (λ y hy=>by
   simp only[List.mem_cons,List.append_eq,List.nil_append,List.mem_append,List.not_mem_nil,or_false] at hy ⊢
   rcases hy with h|h|h|h|h<;>simp[h])
  ·exact((hw.cQ (.tail (.tail .head))).cQ .head).rI
theorem tg{K:Int->Tr}(ht:t.root<=9223372036854775807)(hK:Ah b K a.mm f cap B)(ok:a.Ok)(hm:a.mm.Small)(hA:∀f∈aL a.L,f∈A)(hB:∀x∈B,x∈A)(hs:SF w D [(b,dV a)] A [] (eC a) w) :
  Calls Tryz.prog 102 #[.agg ⟨iV b t⟩,fn f cap] w (Av b (λ c' s' B'=>lW b (mL t K) a.mm c' s' B') a B D w):=by
 refine enter Tryz.func102 Tryz.ntmps102 rfl rfl hs ?_
 simp only[cA]
 refine J0 ?_;refine bK (λ x2=>?_);refine bK (λ x3=>?_);refine aJ (λ x4=>?_);refine aG ?_;refine Ka7 ?_;refine J3 ?_;(refine aC bZ rfl ?_);refine aN (cV (hc:=λ w1 hw=>nY _ _ _ w1)) (λ x9=>?_);refine bY (gV λ _=>aZ rf cY rf (cK _) eF rf jI) (λ _=>?_);refine aG ?_
 refine aY Tryz.results102 (λ w hw=>?_)
 refine⟨(nU t.root _ _,[bx x2 (iV b t),bx x3 [fn f cap]],a),rfl,⟨⟨rfl,ht,_,_,rfl,by kernel_rfl,λ v s1 l hv=>j2 (b1:=x2) (b3:=x3) ht (hK.le l) hv⟩,ok,(AS.iD.refl a).more (λ _ h=>(List.not_mem_nil h).elim)⟩,?_⟩
 exact((hw.cQ (.tail .head)).cQ (.tail .head)).rI
end
end

/- root: Replace. -/
section
open Go Go.RowKit Go.Ct
section
variable{D:List Nat}{A B:Fr}{a:AS}{b:Nat}{w:World}{f:FuncId}{cap:List Value}{t:eQ}
theorem tw{K:Bool->Tr}{x r:Int}{s:Mm}{b3 b4:Nat}(hK:S6 b K s f cap B):pA b 142 [pt b3,pt b4] [.int .i64 r] (bx b3 [fn f cap]::bx b4 [iv x]::B) s (K (x==1)):=by
 intro a D A w em ok hm hA hB hw0
 subst em
 have hK2:=hK.more (B2:=(bx b3 [fn f cap]::bx b4 [iv x]::B)) (λ x hx=>by simp[hx])
 refine enter Tryz.func142 Tryz.ntmps142 rfl rfl hw0 ?_
 simp only[cA]
 refine J0 ?_;refine aJ (λ x4=>?_);refine aG ?_;refine J0 ?_;refine aC (nQ b3 [fn f cap] 0 hB rfl) rfl ?_;refine aC (nQ b4 [.int .i64 x] 0 hB rfl) rfl ?_;refine kW ?_;refine aD (Na hK2.1 (hK2.2 (x==1) a.mm (Mm.Le.refl _)) ok hm hA hB) (λ x8 h8=>?_);refine bY (gV λ _=>aZ rf cY rf (cK _) eF rf jI) (λ _=>?_);refine aG ?_
 refine aY Tryz.results142 (λ w hw=>?_)
 exact⟨x8,rfl,h8,hw.rN⟩
theorem rl{K:Bool->Tr}{v x:Int}{s:Mm}{b1 b2 b3:Nat}(ht:t.root<=9223372036854775807)(hK:S6 b K s f cap B)(hv:v<=s.nodes.length):pA b 140 [pt b1,pt b2,pt b3] [.int .i64 x] (bx b1 (iV b t)::bx b2 [iv v]::bx b3 [fn f cap]::B) s (iE t v x λ _=>K (x==1)):=by
 intro a D A w em ok hm hA hB hw0
 subst em
 have hT:∀x4:Nat,Ah b (λ _=>K (x==1)) a.mm 142 [.pointer (some ⟨b3,0,none⟩),.pointer (some ⟨x4,0,none⟩)] (bx x4 [iv x]::(bx b1 (iV b t)::bx b2 [iv v]::bx b3 [fn f cap]::B)):=λ x4=>⟨by kernel_rfl,λ r s1 l hr=>(tw (b3:=b3) (b4:=x4) (r:=r) (hK.le l)).mr (λ y hy=>by
  simp only[List.mem_cons] at hy ⊢
  rcases hy with h|h|h<;>simp[h])⟩
 refine enter Tryz.func140 Tryz.ntmps140 rfl rfl hw0 ?_
 simp only[cA]
 refine J0 ?_;refine bK (λ x4=>?_);refine aJ (λ x5=>?_);refine aG ?_;refine J0 ?_;refine aC (Qv b1 (iV b t) 0 3 hB rfl rfl) rfl ?_;refine aC (nQ b2 [.int .i64 v] 0 hB rfl) rfl ?_;refine bM ?_;(refine aC bZ rfl ?_);(refine aN (bG.pre (λ w h=>(show SF _ _ [_,(b,dV a)] _ [(bx x4 [iv x]:Option Addr×List Value)] _ w from h.cQ (.tail .head))) (cM (V:=λ y:Cd×Fr×AS=>.agg ⟨y.1.cells⟩) (hs:=[(b,dV a)]) (os:=eC a) (hs':=λ y=>[(b,dV y.2.2)]) (os':=λ y=>eC y.2.2) (Fc:=λ y=>y.2.1) (A0:=bx x4 [iv x]::A) (hA:=bB.xy) (hc:=λ w1 hw=>oR ht (hT x4) hv ok hm (λ f hf=>List.mem_cons_of_mem _ (hA f hf)) (T7 hB) hw))) (λ x10=>?_);try (refine eN (λ h10=>?_)));refine bY (gV λ _=>aZ rf cY rf (cK _) eF rf jI) (λ _=>?_);refine aG ?_
 refine aY Tryz.results140 (λ w hw=>?_)
 refine⟨(x10.1,x10.2.1++[bx x4 [iv x]],x10.2.2),rfl,⟨?_,h10.2.1,h10.2.2.more (λ f hf=>List.mem_append_left _ hf)⟩,hw.rI⟩
 dsimp only
 rw[List.append_assoc]
 exact h10.1
theorem ue{K:Bool->Tr}{v:Int}{s:Mm}{b0 b1 b2 b3:Nat}{nd:Nd}(ht:t.root<=9223372036854775807)(hK:S6 b K s f cap B)(hv:v<=s.nodes.length)(hst:(bQ s.nodes v).status=nd.status):pA b 139 [pt b0,pt b1,pt b2,pt b3] [] (bx b0 (nd.cells:List Value)::bx b1 (iV b t)::bx b2 [iv v]::bx b3 [fn f cap]::B) s (.node v λ nd=>.load nd.status λ s=>iE t v s λ _=>K (s==1)):=by
 intro a D A w em ok hm hA hB hw0
 subst em
 have hd:nd.status<=9223372036854775807:=by rw[<- hst];exact mK hm (ok.mo.at v).status
 refine enter Tryz.func139 Tryz.ntmps139 rfl rfl hw0 ?_
 simp only[cA]
 refine J0 ?_;refine aJ (λ x4=>?_);refine aG ?_;refine Ka7 ?_;refine aC (nQ b0 (nd.cells:List Value) 13 hB rfl) rfl ?_;(refine aC bZ rfl ?_);refine aN (cV (hc:=λ w1 hw=>nY _ _ _ w1)) (λ x8=>?_);refine bY (gV λ _=>aZ rf cY rf (cK _) eF rf jI) (λ _=>?_);refine aG ?_
 refine aY Tryz.results139 (λ w hw=>?_)
 refine⟨(nU nd.status _ _,[],a),rfl,⟨⟨hv,?_⟩,ok,AS.iD.refl a⟩,hw.rI⟩
 dsimp only
 rw[hst]
 exact⟨rfl,hd,_,_,rfl,by kernel_rfl,λ x s1 l hx=>(rl (b1:=b1) (b2:=b2) (b3:=b3) ht (hK.le l) (by have:=l.len;omega)).mr (λ y hy=>List.mem_cons_of_mem _ hy)⟩
theorem ub{K:Bool->Tr}{v:Int}{s:Mm}{b0 b1 b2 b3:Nat}{nd:Nd}(ht:t.root<=9223372036854775807)(hK:S6 b K s f cap B)(hv:v<=s.nodes.length)(ho:(bQ s.nodes v).bA=nd.bA)(he:(bQ s.nodes v).exp=nd.exp)(hst:(bQ s.nodes v).status=nd.status)(o:Bool):pA b 137 [pt b3,pt b1,pt b0,pt b2] [.bool o] (bx b3 [fn f cap]::bx b1 (iV b t)::bx b0 (nd.cells:List Value)::bx b2 [iv v]::B) s (if o=true then lG t v (.node v λ nd=>.load nd.status λ s=>iE t v s λ _=>K (s==1)) else K false):=by
 intro a D A w em ok hm hA hB hw0
 subst em
 have hK2:=hK.more (B2:=(bx b3 [fn f cap]::bx b1 (iV b t)::bx b0 (nd.cells:List Value)::bx b2 [iv v]::B)) (λ x hx=>by simp[hx])
 have hT:Vi b (.node v λ nd=>.load nd.status λ s=>iE t v s λ _=>K (s==1)) a.mm 139 [.pointer (some ⟨b0,0,none⟩),.pointer (some ⟨b1,0,none⟩),.pointer (some ⟨b2,0,none⟩),.pointer (some ⟨b3,0,none⟩)] (bx b3 [fn f cap]::bx b1 (iV b t)::bx b0 (nd.cells:List Value)::bx b2 [iv v]::B):=⟨by kernel_rfl,λ s1 l=>(ue (b0:=b0) (b1:=b1) (b2:=b2) (b3:=b3) (nd:=nd) ht (hK.le l) (by have:=l.len;omega) (by rw[l.nd hv];exact hst)).mr (λ y hy=>by
  simp only[List.mem_cons] at hy ⊢
  rcases hy with h|h|h|h|h<;>simp[h])⟩
 refine enter Tryz.func137 Tryz.ntmps137 rfl rfl hw0 ?_
 simp only[cA]
 refine J0 ?_;refine aJ (λ x6=>?_);refine aG ?_;refine kR ?_;refine pE ?_
 refine bD (λ c8=>?_) (λ c8=>?_)
 ·refine J0 ?_;refine aC (nQ b3 [fn f cap] 0 hB rfl) rfl ?_;refine aD (Na hK2.1 (hK2.2 false a.mm (Mm.Le.refl _)) ok hm hA hB) (λ x10 h10=>?_);refine bY (gV λ _=>aZ rf cY rf (cK _) eF rf jI) (λ _=>?_);refine aG ?_
  refine aY Tryz.results137 (λ w hw=>?_)
  refine⟨x10,rfl,⟨?_,h10.2⟩,hw.rN⟩
  rw[if_neg (by rw[show o=false by simpa using c8];decide)]
  exact h10.1
 ·refine aW ?_;refine J0 ?_;refine aC (Qv b1 (iV b t) 0 3 hB rfl rfl) rfl ?_;refine aC (Qv b0 (nd.cells:List Value) 0 14 hB rfl rfl) rfl ?_;(refine aC bZ rfl ?_);refine aD (Cn (λ w1 hw=>Kf (nd:=nd) ht hT hv ho he hst ok hm hA hB hw)) (λ x14 h14=>?_);refine bY (gV λ _=>aZ rf cY rf (cK _) eF rf jI) (λ _=>?_);refine aG ?_
  refine aY Tryz.results137 (λ w hw=>?_)
  refine⟨x14,rfl,⟨?_,h14.2⟩,hw.rN⟩
  rw[if_pos (by simpa using c8)]
  exact h14.1
theorem Sj{K:Bool->Tr}{fq:FuncId}{bA exp nw:Int}(ht:t.root<=9223372036854775807)(hK:S6 b K a.mm fq cap B)(ho:bA<=a.mm.nodes.length)(he:exp<=a.mm.nodes.length)(hnw:nw<=a.mm.nodes.length)(ok:a.Ok)(hm:a.mm.Small)(hA:∀f∈aL a.L,f∈A)(hB:∀x∈B,x∈A)(hs:SF w D [(b,dV a)] A [] (eC a) w) :
  Calls Tryz.prog 97 #[.agg ⟨iV b t⟩,.int .i64 bA,.int .i64 exp,.int .i64 nw,fn fq cap] w (Av b (λ c' s' B'=>lW b (lP t bA exp nw K) a.mm c' s' B') a B D w):=by
 have okA:∀x:AX,(a.al ({Nd.zero with kind:=8,bA:=bA,exp:=exp,new:=nw}:Nd) [] [] 0 x).Ok:=λ x=>ok.al x (by simp) (by simp) ⟨ho,he,hnw,(λ r hr=>nomatch hr),bL _,bL _,bL _,⟨0,rfl,by decide⟩,⟨0,rfl,by decide⟩⟩ (by omega)
 have hlA:∀x:AX,(a.al ({Nd.zero with kind:=8,bA:=bA,exp:=exp,new:=nw}:Nd) [] [] 0 x).mm.nodes.length=a.mm.nodes.length+1:=λ x=>by rw[pQ];show(a.mm.nodes++[_]).length=_;simp
 have hleA:∀x:AX,a.mm.Le (a.al ({Nd.zero with kind:=8,bA:=bA,exp:=exp,new:=nw}:Nd) [] [] 0 x).mm:=λ x=>by rw[pQ];exact Mi _ _ _
 refine enter Tryz.func97 Tryz.ntmps97 rfl rfl hs ?_
 simp only[cA]
 refine J0 ?_;refine bK (λ x5=>?_);refine bK (λ x9=>?_);refine aJ (λ x10=>?_);refine Rr ?_
 refine dX [11,13,14,15,16,17,18,19,20,21] (λ j:Nat×AX=>[(11,.pointer (some ⟨j.1,0,none⟩))]) (λ _=>True) (λ j=>[(j.1,.cells ⟨[.int .i64 ((a.mm.nodes.length+1:Nat):Int)]⟩ 37 (0,0)),(x10,.cells ⟨(rO Rs.zero).cells⟩ 132 (0,0)),(x9,.cells ⟨[fn fq cap]⟩ 130 (0,0)),(x5,.cells ⟨iV b t⟩ 125 (0,0)),(b,dV (a.al ({Nd.zero with kind:=8,bA:=bA,exp:=exp,new:=nw}:Nd) [] [] 0 j.2))]) (λ j=>(jU ({Nd.zero with kind:=8,bA:=bA,exp:=exp,new:=nw}:Nd) [] [] a.cs.length j.2).fr) (λ j=>eC (a.al ({Nd.zero with kind:=8,bA:=bA,exp:=exp,new:=nw}:Nd) [] [] 0 j.2)) (by decide) (λ _=>by exact rfl) ?_ (λ j f hx=>?_)
 ·refine fR (.one 0 [] (.one 1 [] (.one 2 [] (.one 3 [] (.one 4 [] (.one 6 [] (.one 7 [] (.two 5 [1] (.two 8 [] (.one 9 [1] (.one 10 [] .nil)) 0 [] (.two 9 [1] (.one 8 [] (.one 10 [] .nil)) 0 [] .nil)) 0 [] (.two 9 [1] (.one 5 [1] (.one 8 [] (.one 10 [] .nil))) 0 [] .nil))))))))) ?_
  refine nA ?_;refine iF ?_;refine aT ?_;refine cP (i:=6) (hq:=(D7 rf)) (h:=?_);refine aT ?_
  refine fD (E:=[5,9]) (by decide +kernel) ((.cons ?_ (.cons ?_ .nil)))
  ·refine Aq (i:=5) (hq:=(cV (hc:=λ w1 hw=>jv bA exp nw w1))) (h:=λ x18=>?_)
   refine fD (E:=[8,9]) (by decide +kernel) ((.cons ?_ (.cons ?_ .nil)))
   ·refine kC (i:=8) (hq:=(cMI (V:=λ _:AX=>.int .i64 ((a.mm.nodes.length+1:Nat):Int)) (hs:=[(b,dV a)]) (os:=eC a) (A0:=[(none,aH []),(none,cZ [])]) (hs':=λ x=>[(b,dV (a.al ({Nd.zero with kind:=8,bA:=bA,exp:=exp,new:=nw}:Nd) [] [] 0 x))]) (os':=λ x=>eC (a.al ({Nd.zero with kind:=8,bA:=bA,exp:=exp,new:=nw}:Nd) [] [] 0 x)) (Fc:=λ x=>(jU ({Nd.zero with kind:=8,bA:=bA,exp:=exp,new:=nw}:Nd) [] [] a.cs.length x).fr) (hm:=λ w=>xQ _ _ _ w) (hc:=λ w1 hw=>sC ok hm 0 rfl rfl (by simp) (by simp) (λ f hf=>hf) hw))) (h:=λ x21 h21=>?_)
    refine cO (i:=9) (hq:=(gV λ _=>Ih (z:=.int .i64 0) (by kernel_rfl) rfl)) (h:=λ x11=>?_);refine yR ?_
    refine eE ((x11,x21)) ?_
    ·trivial
   ·refine Aq (i:=9) (hq:=(gV λ _=>Ih (z:=.int .i64 0) (by kernel_rfl) rfl)) (h:=λ x11=>?_)
    refine bC (i:=8) (hq:=(cMI (V:=λ _:AX=>.int .i64 ((a.mm.nodes.length+1:Nat):Int)) (hs:=[(b,dV a)]) (os:=eC a) (A0:=[(none,aH []),(none,cZ [])]) (hs':=λ x=>[(b,dV (a.al ({Nd.zero with kind:=8,bA:=bA,exp:=exp,new:=nw}:Nd) [] [] 0 x))]) (os':=λ x=>eC (a.al ({Nd.zero with kind:=8,bA:=bA,exp:=exp,new:=nw}:Nd) [] [] 0 x)) (Fc:=λ x=>(jU ({Nd.zero with kind:=8,bA:=bA,exp:=exp,new:=nw}:Nd) [] [] a.cs.length x).fr) (hm:=λ w=>xQ _ _ _ w) (hc:=λ w1 hw=>sC ok hm 0 rfl rfl (by simp) (by simp) (λ f hf=>hf) hw))) (h:=λ x21 h21=>?_);refine yR ?_
    refine eE ((x11,x21)) ?_
    ·trivial
  ·refine Aq (i:=9) (hq:=(gV λ _=>Ih (z:=.int .i64 0) (by kernel_rfl) rfl)) (h:=λ x11=>?_)
   refine cO (i:=5) (hq:=(cV (hc:=λ w1 hw=>jv bA exp nw w1))) (h:=λ x18=>?_);refine bC (i:=8) (hq:=(cMI (V:=λ _:AX=>.int .i64 ((a.mm.nodes.length+1:Nat):Int)) (hs:=[(b,dV a)]) (os:=eC a) (A0:=[(none,aH []),(none,cZ [])]) (hs':=λ x=>[(b,dV (a.al ({Nd.zero with kind:=8,bA:=bA,exp:=exp,new:=nw}:Nd) [] [] 0 x))]) (os':=λ x=>eC (a.al ({Nd.zero with kind:=8,bA:=bA,exp:=exp,new:=nw}:Nd) [] [] 0 x)) (Fc:=λ x=>(jU ({Nd.zero with kind:=8,bA:=bA,exp:=exp,new:=nw}:Nd) [] [] a.cs.length x).fr) (hm:=λ w=>xQ _ _ _ w) (hc:=λ w1 hw=>sC ok hm 0 rfl rfl (by simp) (by simp) (λ f hf=>hf) hw))) (h:=λ x21 h21=>?_);refine yR ?_
   refine eE ((x11,x21)) ?_
   ·trivial
 dsimp only[hX,List.map,List.cons_append,List.nil_append]
 refine iB ?_;refine bM ?_;refine aD (aB5 (V:=λ q:Option Addr×Option Addr=>.agg ⟨((aB (cN (a.al ({Nd.zero with kind:=8,bA:=bA,exp:=exp,new:=nw}:Nd) [] [] 0 j.2).L) ((a.mm.nodes.length+1:Nat):Int)).at_ q.1 q.2).nd.cells⟩) (hs:=[(b,dV (a.al ({Nd.zero with kind:=8,bA:=bA,exp:=exp,new:=nw}:Nd) [] [] 0 j.2))]) (os:=eC (a.al ({Nd.zero with kind:=8,bA:=bA,exp:=exp,new:=nw}:Nd) [] [] 0 j.2)) (A0:=aL (a.al ({Nd.zero with kind:=8,bA:=bA,exp:=exp,new:=nw}:Nd) [] [] 0 j.2).L) (hA:=bB.of λ f hf=>((AS.iD.al a _ _ _ _ j.2).fam f hf).imp_right λ h=>h.elim (λ h=>.inl (hA f h)) λ h=>.inr (.inl h)) (hm:=λ w=>Oj _ _ w) (hc:=λ w1 hw=>dk (okA j.2) (by have:=hm.1;have:=hlA j.2;omega) ((a.mm.nodes.length+1:Nat):Int) (by have:=hlA j.2;have:=hm.1;omega) hw)) (λ x25 h25=>?_);refine aJ (λ x12=>?_);refine J5 ?_;refine Ka7 ?_;refine Kc9 ?_;refine bM ?_;(refine aC bZ rfl ?_);refine aN (cV (hc:=λ w1 hw=>sX _ _ _ _ _ w1)) (λ x32=>?_);refine bY (gV λ _=>aZ rf cY rf (cK _) eF rf jI) (λ _=>?_);refine aG ?_
 refine aY Tryz.results97 (λ w hw=>?_)
 refine⟨(uM t.root bA ((a.mm.nodes.length+1:Nat):Int) _ _,[bx x12 (((aB (cN (a.al ({Nd.zero with kind:=8,bA:=bA,exp:=exp,new:=nw}:Nd) [] [] 0 j.2).L) ((a.mm.nodes.length+1:Nat):Int)).at_ x25.1 x25.2).nd.cells:List Value),bx j.1 [iv ((a.mm.nodes.length+1:Nat):Int)],bx x9 [fn fq cap],bx x5 (iV b t)]++(jU ({Nd.zero with kind:=8,bA:=bA,exp:=exp,new:=nw}:Nd) [] [] a.cs.length j.2).fr,(a.al ({Nd.zero with kind:=8,bA:=bA,exp:=exp,new:=nw}:Nd) [] [] 0 j.2)),rfl,⟨?_,okA j.2,(AS.iD.al a _ _ _ _ j.2).more (λ f hf=>List.mem_append_right _ hf)⟩,?_⟩
 ·refine⟨pQ a _ _ _ _ j.2,ht,?_,_,_,rfl,by kernel_rfl,λ o s1 l=>?_⟩
  ·show _<=(((a.mm.nodes++[_]).length:Nat):Int)
   rw[List.length_append]
   simp
  ·have l1:(a.al ({Nd.zero with kind:=8,bA:=bA,exp:=exp,new:=nw}:Nd) [] [] 0 j.2).mm.Le s1:=by rw[pQ];exact l
   have hl1:=l1.len
   have hl2:=hlA j.2
   have hv1:((a.mm.nodes.length+1:Nat):Int)<=(a.al ({Nd.zero with kind:=8,bA:=bA,exp:=exp,new:=nw}:Nd) [] [] 0 j.2).mm.nodes.length:=by omega
   exact(ub (b0:=x12) (b1:=x5) (b2:=j.1) (b3:=x9) (nd:=((aB (cN (a.al ({Nd.zero with kind:=8,bA:=bA,exp:=exp,new:=nw}:Nd) [] [] 0 j.2).L) ((a.mm.nodes.length+1:Nat):Int)).at_ x25.1 x25.2).nd) ht (hK.le ((hleA j.2).trans l1)) (by omega) (by rw[l1.nd hv1,iN];rfl) (by rw[l1.nd hv1,iN];rfl) (by rw[l1.nd hv1,iN];rfl) o).mr (λ y hy=>by
   simp only[List.mem_cons,List.mem_append,List.not_mem_nil,or_false] at hy ⊢
   rcases hy with h|h|h|h|h<;>simp[h])
 ·exact((((hw.cQ (.tail (.tail (.tail (.tail .head))))).cQ (.tail (.tail (.tail .head)))).cQ (.tail .head)).cQ .head).rI
end
end

end Go.Proofs.YtbajmaoegmbfgaaGreat
