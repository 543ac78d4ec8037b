/- gcas: Read, Swap. -/
import Derived.Test.YtbajmaoegmbfgaaGreatGGc3
import Derived.Test.YtbajmaoegmbfgaaGreatGWo1

set_option linter.unusedSimpArgs false
set_option linter.unusedVariables false
namespace Go.Proofs.YtbajmaoegmbfgaaGreat
section
open Go Go.RowKit Go.Ct
section
variable{D:List Nat}{A B:Fr}{a:AS}{b:Nat}{w:World}{f:FuncId}{cap:List Value}{t:fR}
theorem Zd{K:Int->Tr}{i m:Int}{s:Mm}{bt bo bi:Nat}(ht:t.root<=9223372036854775807)(hK:zS b K s f cap B)(hi:i<=s.nodes.length)(hmm:m<=s.nodes.length):oE b 131 [pt bo,pt bi,pt bt] [.int .i64 m] (bx bo (iH b t)::bx bi [iv i]::bx bt [fn f cap]::B) s (tI t i m K):=by
 intro a D A w em ok hm hA hB hw0
 subst em
 have hK2:=hK.more (B2:=(bx bo (iH b t)::bx bi [iv i]::bx bt [fn f cap]::B)) (λ x hx=>by simp[hx])
 refine enter Tryz.func131 Tryz.ntmps131 rfl rfl hw0 ?_
 simp only[bX]
 refine J0 ?_;refine aI (λ x5=>?_);refine aG ?_;refine J0 ?_;refine aB (Ot bo (iH b t) 0 3 hB rfl rfl) rfl ?_;refine aB (mU bi [.int .i64 i] 0 hB rfl) rfl ?_;refine aA ?_;refine aB (mU bt [fn f cap] 0 hB rfl) rfl ?_;refine aC (Cm (λ w1 hw=>Xp ht hK2 hi hmm ok hm hA hB hw)) (λ x10 h10=>?_);refine bW (gK λ _=>bA rf cN rf (cK _) dI rf jB) (λ _=>?_);refine aG ?_
 refine bB Tryz.results131 (λ w hw=>?_)
 exact⟨x10,rfl,h10,hw.rN⟩
theorem rz{K:Int->Tr}{i:Int}(ht:t.root<=9223372036854775807)(hK:zS b K a.mm f cap B)(hi:i<=a.mm.nodes.length)(ok:a.Ok)(hm:a.mm.Small)(hA:∀f∈aK a.L,f∈A)(hB:∀x∈B,x∈A)(hs:SF w D [(b,dS a)] A [] (dZ a) w) :
  Calls Tryz.prog 88 #[.agg ⟨iH b t⟩,.int .i64 i,fn f cap] w (Ay b (λ c' s' B'=>kE b (nF t i K) a.mm c' s' B') a B D w):=by
 have ni:=C5 ok i
 refine enter Tryz.func88 Tryz.ntmps88 rfl rfl hs ?_
 simp only[bX]
 refine J0 ?_;refine bL (λ x3=>?_);refine bL (λ x4=>?_);refine bL (λ x5=>?_);refine aI (λ x6=>?_);refine aG ?_;refine gM ?_;refine bN ?_;refine aC (It i ok hm hA hi) (λ x10 h10=>?_);refine cD ?_;(refine aB (bY (by(repeat (first|exact cE _|(apply bU;focus ((conv=>{lhs;whnf});try exact rfl))));done)) rfl ?_);refine aP (cV (hc:=λ w1 hw=>nD _ _ _ w1)) (λ x13=>?_);refine bW (gK λ _=>bA rf cN rf (cK _) dI rf jB) (λ _=>?_);refine aG ?_
 refine bB Tryz.results88 (λ w hw=>?_)
 refine⟨(mP (aD (cW a.L) i).nd.main _ _,[bx x3 (iH b t),bx x4 [iv i],bx x5 [fn f cap]],a),rfl,⟨⟨hi,?_⟩,ok,(AS.iD.refl a).more (λ _ h=>(List.not_mem_nil h).elim)⟩,?_⟩
 ·rw[iM]
  exact⟨rfl,lW hm ni.main,_,_,rfl,by kernel_rfl,λ m s1 l hmm=>Zd (bo:=x3) (bi:=x4) (bt:=x5) ht (hK.le l) (by have:=l.len;omega) hmm⟩
 ·exact(((hw.cP (.tail .head)).cP (.tail .head)).cP (.tail .head)).rI
end
end

/- root: decide. -/
end Go.Proofs.YtbajmaoegmbfgaaGreat
namespace Go.Ct
section
open Go Go.RowKit
theorem bF.pre{P:Program}{S:List (Nat×Value)}{G G2:World->Prop}{o:Oper}{X:Type}{V:X->Value}{G':X->World->Prop}(h:∀w,G w->G2 w)(hl:bF P S G2 o X V G'):bF P S G o X V G':=⟨λ w hw=>hl.run w (h w hw)⟩
end
end Go.Ct
namespace Go.Proofs.YtbajmaoegmbfgaaGreat
section
open Go Go.RowKit Go.Ct
section
variable{D:List Nat}{A B:Fr}{a:AS}{b:Nat}{w:World}{f:FuncId}{cap:List Value}{t:fR}
theorem Uy{Kt:Tr}{s:Mm}{b5:Nat}(hK:Ts b Kt s f cap B)(o:Bool):oE b 173 [pt b5] [.bool o] (bx b5 [fn f cap]::B) s (Kt):=by
 intro a D A w em ok hm hA hB hw0
 subst em
 have hK2:=hK.more (B2:=(bx b5 [fn f cap]::B)) (λ x hx=>by simp[hx])
 refine enter Tryz.func173 Tryz.ntmps173 rfl rfl hw0 ?_
 simp only[bX]
 refine J0 ?_;refine aI (λ x3=>?_);refine aG ?_;refine J0 ?_;refine aB (mU b5 [fn f cap] 0 hB rfl) rfl ?_;refine aC (Kr hK2.1 (hK2.2 a.mm (Mm.Le.refl _)) ok hm hA hB) (λ x5 h5=>?_);refine bW (gK λ _=>bA rf cN rf (cK _) dI rf jB) (λ _=>?_);refine aG ?_
 refine bB Tryz.results173 (λ w hw=>?_)
 exact⟨x5,rfl,h5,hw.rN⟩
theorem ow{Kt:Tr}{v r:Int}{s:Mm}{b4 b5:Nat}{nd:Nd}(hK:Ts b Kt s f cap B)(hv:v<=s.nodes.length)(he:(dY s.nodes v).exp=nd.exp)(hst:(dY s.nodes v).status=nd.status)(hd:nd.status<=9223372036854775807):oE b 172 [pt b4,pt b5] [.int .i64 r] (bx b4 (nd.cells:List Value)::bx b5 [fn f cap]::B) s (.node v λ n2=>.node v λ n3=>.kI n3.status 0 (if r=n2.exp then 1 else 2) λ _=>Kt):=by
 intro a D A w em ok hm hA hB hw0
 subst em
 refine enter Tryz.func172 Tryz.ntmps172 rfl rfl hw0 ?_
 simp only[bX]
 refine J0 ?_;refine aI (λ x4=>?_);refine aG ?_;refine cR ?_;refine kY ?_;refine aE ?_;refine aB (mU b4 (nd.cells:List Value) 11 hB rfl) rfl ?_;refine uB ?_
 refine bC (λ c9=>?_) (λ c9=>?_)
 ·refine dG ?_;refine J1 ?_;refine J0 ?_;refine aE ?_;refine aB (mU b4 (nd.cells:List Value) 13 hB rfl) rfl ?_;refine aA ?_;(refine aB (bY (by(repeat (first|exact cE _|(apply bU;focus ((conv=>{lhs;whnf});try exact rfl))));done)) rfl ?_);refine aP (cV (hc:=λ w1 hw=>sJ _ _ _ _ _ w1)) (λ x14=>?_);refine bW (gK λ _=>bA rf cN rf (cK _) dI rf jB) (λ _=>?_);refine aG ?_
  refine bB Tryz.results172 (λ w hw=>?_)
  refine⟨(tV nd.status 0 1 _ _,[],a),rfl,⟨⟨hv,hv,?_⟩,ok,AS.iD.refl a⟩,hw.rI⟩
  dsimp only
  rw[he,hst,if_pos (by omega)]
  exact⟨rfl,hd,by have:=ok.mo.two;omega,_,_,rfl,by kernel_rfl,λ o s1 l=>(Uy (b5:=b5) (hK.le l) o).mr (λ y hy=>List.mem_cons_of_mem _ hy)⟩
 ·refine aX ?_;refine J0 ?_;refine aE ?_;refine aB (mU b4 (nd.cells:List Value) 13 hB rfl) rfl ?_;refine aA ?_;(refine aB (bY (by(repeat (first|exact cE _|(apply bU;focus ((conv=>{lhs;whnf});try exact rfl))));done)) rfl ?_);refine aP (cV (hc:=λ w1 hw=>sJ _ _ _ _ _ w1)) (λ x14=>?_);refine bW (gK λ _=>bA rf cN rf (cK _) dI rf jB) (λ _=>?_);refine aG ?_
  refine bB Tryz.results172 (λ w hw=>?_)
  refine⟨(tV nd.status 0 2 _ _,[],a),rfl,⟨⟨hv,hv,?_⟩,ok,AS.iD.refl a⟩,hw.rI⟩
  dsimp only
  rw[he,hst,if_neg (by omega)]
  exact⟨rfl,hd,by have:=ok.mo.two;omega,_,_,rfl,by kernel_rfl,λ o s1 l=>(Uy (b5:=b5) (hK.le l) o).mr (λ y hy=>List.mem_cons_of_mem _ hy)⟩
theorem Jm{Kt:Tr}{v:Int}{nd:Nd}(ht:t.root<=9223372036854775807)(hK:Ts b Kt a.mm f cap B)(hv:v<=a.mm.nodes.length)(ho:(dY a.mm.nodes v).bD=nd.bD)(he:(dY a.mm.nodes v).exp=nd.exp)(hst:(dY a.mm.nodes v).status=nd.status)(ok:a.Ok)(hm:a.mm.Small)(hA:∀f∈aK a.L,f∈A)(hB:∀x∈B,x∈A)(hs:SF w D [(b,dS a)] A [] (dZ a) w) :
  Calls Tryz.prog 138 #[.agg ⟨iH b t⟩,nd.v,fn f cap] w (Ay b (λ c' s' B'=>kE b (oR t v Kt) a.mm c' s' B') a B D w):=by
 have hol:nd.bD<=a.mm.nodes.length:=by rw[<- ho];exact(ok.mo.at v).bD
 have hd:nd.status<=9223372036854775807:=by rw[<- hst];exact lW hm (ok.mo.at v).status
 have hT:∀x4 x5:Nat,zS b (λ r=>.node v λ n2=>.node v λ n3=>.kI n3.status 0 (if r=n2.exp then 1 else 2) λ _=>Kt) a.mm 172 [.pointer (some ⟨x4,0,none⟩),.pointer (some ⟨x5,0,none⟩)] (bx x5 [fn f cap]::bx x4 (nd.cells:List Value)::B):=λ x4 x5=>⟨by kernel_rfl,λ r s1 l hr=>(ow (b4:=x4) (b5:=x5) (nd:=nd) (hK.le l) (by have:=l.len;omega) (by rw[l.nd hv];exact he) (by rw[l.nd hv];exact hst) hd).mr (λ y hy=>by
  simp only[List.mem_cons] at hy ⊢
  rcases hy with h|h|h<;>simp[h])⟩
 refine enter Tryz.func138 Tryz.ntmps138 rfl rfl hs ?_
 simp only[bX]
 simp only[Nd.v,Nd.cells]
 refine J0 ?_;refine bL (λ x3=>?_);refine bL (λ x4=>?_);refine bL (λ x5=>?_);refine aI (λ x6=>?_);refine aG ?_;refine nX ?_;refine J3 ?_;(refine aB (bY (by(repeat (first|exact cE _|(apply bU;focus ((conv=>{lhs;whnf});try exact rfl))));done)) rfl ?_);(refine aP (bF.pre (λ w h=>(show SF _ _ [_,_,(b,dS a)] _ [(bx x5 [fn f cap]:Option Addr×List Value),bx x4 (nd.cells:List Value)] _ w from(h.cP (.tail (.tail .head))).cP (.tail .head))) (cM (V:=λ y:Cd×Fr×AS=>.agg ⟨y.1.cells⟩) (hs:=[(b,dS a)]) (os:=dZ a) (hs':=λ y=>[(b,dS y.2.2)]) (os':=λ y=>dZ y.2.2) (Fc:=λ y=>y.2.1) (A0:=bx x5 [fn f cap]::bx x4 (nd.cells:List Value)::A) (hA:=aW.dm) (hc:=λ w1 hw=>rz ht (hT x4 x5) hol ok hm (λ f hf=>List.mem_cons_of_mem _ (List.mem_cons_of_mem _ (hA f hf))) (Fi hB) hw))) (λ x11=>?_);try (refine eW (λ h11=>?_)));refine bW (gK λ _=>bA rf cN rf (cK _) dI rf jB) (λ _=>?_);refine aG ?_
 refine bB Tryz.results138 (λ w hw=>?_)
 refine⟨(x11.1,x11.2.1++[bx x5 [fn f cap],bx x4 (nd.cells:List Value)],x11.2.2),rfl,⟨⟨hv,?_⟩,h11.2.1,h11.2.2.more (λ f hf=>List.mem_append_left _ hf)⟩,hw.rI⟩
 dsimp only
 rw[ho,List.append_assoc]
 exact h11.1
end
end

/- gcas, root: the tasks. -/
section
open Go Go.RowKit Go.Ct
theorem mH.app{b:Nat}{p:Tr×Mm}{a:AS}{B B1 F:Fr}{c:Cd}{a':AS}(h:mH b p a (B1++B) (c,F,a')):mH b p a B (c,F++B1,a'):=by
 obtain⟨⟨h1,h2⟩,h3,h4⟩:=h
 refine⟨⟨?_,h2⟩,h3,h4.more λ f hf=>List.mem_append_left _ hf⟩
 simp only at h1 ⊢
 rw[List.append_assoc]
 exact h1
section
variable{D:List Nat}{A B:Fr}{a:AS}{b:Nat}{w:World}{f:FuncId}{cap:List Value}{t:fR}
theorem Kj{t:Tr}{i m:Nat}(ht:bQ t i m)(h:Ts b t a.mm f cap B)(ok:a.Ok)(hm:a.mm.Small)(hA:∀f∈aK a.L,f∈A)(hB:∀x∈B,x∈A)(hs:SF w D [(b,dS a)] A [] (dZ a) w) :
  Calls Tryz.prog 73 #[.iface 42 (.pointer (some ⟨b,0,none⟩)),.func (.func f) #[] ⟨cap⟩] w λ e w'=>∃x:Nat×Cd×Fr×AS,e=.returned (.pointer (some ⟨x.1,0,none⟩))/\(mH b (Ct.iU t a.mm) a B x.2/\eE (Ct.iU t a.mm).1=true)/\SF w D ([(b,dS x.2.2.2)]++[(x.1,tO b x.2.1 0)]) [] x.2.2.1 (dZ x.2.2.2++[]) w' :=
 (Z7 ht h ok hm hA hB hs).mono λ _ _ ⟨x,e,h,hw⟩=>⟨x,e,h,by rw[List.append_nil];exact hw.perm (List.Perm.swap _ _ _) (List.Perm.refl _)⟩
theorem uk{s:Mm}(v:Int):yZ b 103 [] [.int .i64 v] B s (λ c' s' B'=>kE b (.done (lD v false)) s c' s' B'):=by
 intro a D A w em ok hm hA hB hw0
 subst em
 refine enter Tryz.func103 Tryz.ntmps103 rfl rfl hw0 ?_
 simp only[bX]
 refine J0 ?_;refine aI (λ x2=>?_);refine aG ?_;refine J2 ?_;refine bG ?_;refine aP (cV (hc:=λ w1 hw=>Vn (lD v false) w1)) (λ x5=>?_);refine J5 ?_
 refine bB Tryz.results103 (λ w hw=>?_)
 exact⟨(zK (lD v false),[],a),rfl,⟨⟨rfl,rfl⟩,ok,AS.iD.refl a⟩,hw.rI⟩
theorem yf{s:Mm}(v:Bool):yZ b 98 [] [.bool v] B s (λ c' s' B'=>kE b (.done (lD 0 v)) s c' s' B'):=by
 intro a D A w em ok hm hA hB hw0
 subst em
 refine enter Tryz.func98 Tryz.ntmps98 rfl rfl hw0 ?_
 simp only[bX]
 refine J0 ?_;refine aI (λ x2=>?_);refine aG ?_;refine J2 ?_;refine bG ?_;refine aP (cV (hc:=λ w1 hw=>Vn (lD 0 v) w1)) (λ x5=>?_);refine J5 ?_
 refine bB Tryz.results98 (λ w hw=>?_)
 exact⟨(zK (lD 0 v),[],a),rfl,⟨⟨rfl,rfl⟩,ok,AS.iD.refl a⟩,hw.rI⟩
end
end

/- root: Help. -/
section
open Go Go.RowKit Go.Ct
section
variable{D:List Nat}{A B:Fr}{a:AS}{b:Nat}{w:World}{f:FuncId}{cap:List Value}{t:fR}
theorem jf{K:Int->Tr}{v x:Int}{s:Mm}{b1 b2 b3:Nat}(ht:t.root<=9223372036854775807)(hK:zS b K s f cap B)(hv:v<=s.nodes.length):oE b 147 [pt b1,pt b2,pt b3] [.int .i64 x] (bx b1 (iH b t)::bx b2 [iv v]::bx b3 [fn f cap]::B) s (mI t v x K):=by
 intro a D A w em ok hm hA hB hw0
 subst em
 have hK2:=hK.more (B2:=(bx b1 (iH b t)::bx b2 [iv v]::bx b3 [fn f cap]::B)) (λ x hx=>by simp[hx])
 refine enter Tryz.func147 Tryz.ntmps147 rfl rfl hw0 ?_
 simp only[bX]
 refine J0 ?_;refine aI (λ x5=>?_);refine aG ?_;refine J0 ?_;refine aB (Ot b1 (iH b t) 0 3 hB rfl rfl) rfl ?_;refine aB (mU b2 [.int .i64 v] 0 hB rfl) rfl ?_;refine aA ?_;refine aB (mU b3 [fn f cap] 0 hB rfl) rfl ?_;refine aC (Cm (λ w1 hw=>nL ht hK2 hv ok hm hA hB hw)) (λ x10 h10=>?_);refine bW (gK λ _=>bA rf cN rf (cK _) dI rf jB) (λ _=>?_);refine aG ?_
 refine bB Tryz.results147 (λ w hw=>?_)
 exact⟨x10,rfl,h10,hw.rN⟩
theorem a9{K:Int->Tr}{v:Int}{s:Mm}{b0 b1 b2 b3:Nat}{nd:Nd}(ht:t.root<=9223372036854775807)(hK:zS b K s f cap B)(hv:v<=s.nodes.length)(hst:(dY s.nodes v).status=nd.status):oE b 146 [pt b0,pt b1,pt b2,pt b3] [] (bx b0 (nd.cells:List Value)::bx b1 (iH b t)::bx b2 [iv v]::bx b3 [fn f cap]::B) s (.node v λ n=>.load n.status λ s=>mI t v s K):=by
 intro a D A w em ok hm hA hB hw0
 subst em
 have hd:nd.status<=9223372036854775807:=by rw[<- hst];exact lW hm (ok.mo.at v).status
 refine enter Tryz.func146 Tryz.ntmps146 rfl rfl hw0 ?_
 simp only[bX]
 refine J0 ?_;refine aI (λ x4=>?_);refine aG ?_;refine J0 ?_;refine aE ?_;refine aB (mU b0 (nd.cells:List Value) 13 hB rfl) rfl ?_;(refine aB (bY (by(repeat (first|exact cE _|(apply bU;focus ((conv=>{lhs;whnf});try exact rfl))));done)) rfl ?_);refine aP (cV (hc:=λ w1 hw=>nD _ _ _ w1)) (λ x8=>?_);refine bW (gK λ _=>bA rf cN rf (cK _) dI rf jB) (λ _=>?_);refine aG ?_
 refine bB Tryz.results146 (λ w hw=>?_)
 refine⟨(mP nd.status _ _,[],a),rfl,⟨⟨hv,?_⟩,ok,AS.iD.refl a⟩,hw.rI⟩
 dsimp only
 rw[hst]
 exact⟨rfl,hd,_,_,rfl,by kernel_rfl,λ x s1 l hx=>(jf (b1:=b1) (b2:=b2) (b3:=b3) ht (hK.le l) (by have:=l.len;omega)).mr (λ y hy=>List.mem_cons_of_mem _ hy)⟩
theorem Y8{K:Int->Tr}{v x:Int}{s:Mm}{b0 b1 b2 b3:Nat}{nd:Nd}(ht:t.root<=9223372036854775807)(hK:zS b K s f cap B)(hv:v<=s.nodes.length)(ho:(dY s.nodes v).bD=nd.bD)(he:(dY s.nodes v).exp=nd.exp)(hst:(dY s.nodes v).status=nd.status):oE b 145 [pt b1,pt b2,pt b3,pt b0] [.int .i64 x] (bx b1 (iH b t)::bx b2 [iv v]::bx b3 [fn f cap]::bx b0 (nd.cells:List Value)::B) s (if x=0 then oR t v (.node v λ n=>.load n.status λ s=>mI t v s K) else mI t v x K):=by
 intro a D A w em ok hm hA hB hw0
 subst em
 have hK2:=hK.more (B2:=(bx b1 (iH b t)::bx b2 [iv v]::bx b3 [fn f cap]::bx b0 (nd.cells:List Value)::B)) (λ x hx=>by simp[hx])
 have hT:Ts b (.node v λ n=>.load n.status λ s=>mI t v s K) a.mm 146 [.pointer (some ⟨b0,0,none⟩),.pointer (some ⟨b1,0,none⟩),.pointer (some ⟨b2,0,none⟩),.pointer (some ⟨b3,0,none⟩)] (bx b1 (iH b t)::bx b2 [iv v]::bx b3 [fn f cap]::bx b0 (nd.cells:List Value)::B):=⟨by kernel_rfl,λ s1 l=>(a9 (b0:=b0) (b1:=b1) (b2:=b2) (b3:=b3) (nd:=nd) ht (hK.le l) (by have:=l.len;omega) (by rw[l.nd hv];exact hst)).mr (λ y hy=>by
  simp only[List.mem_cons] at hy ⊢
  rcases hy with h|h|h|h|h<;>simp[h])⟩
 refine enter Tryz.func145 Tryz.ntmps145 rfl rfl hw0 ?_
 simp only[bX]
 refine J0 ?_;refine aI (λ x6=>?_);refine aG ?_;refine kY ?_;refine kM ?_;refine aG ?_
 refine bC (λ c8=>?_) (λ c8=>?_)
 ·refine J0 ?_;refine aB (Ot b1 (iH b t) 0 3 hB rfl rfl) rfl ?_;refine aB (mU b2 [.int .i64 v] 0 hB rfl) rfl ?_;refine aA ?_;refine aB (mU b3 [fn f cap] 0 hB rfl) rfl ?_;refine aC (Cm (λ w1 hw=>nL ht hK2 hv ok hm hA hB hw)) (λ x13 h13=>?_);refine bW (gK λ _=>bA rf cN rf (cK _) dI rf jB) (λ _=>?_);refine aG ?_
  refine bB Tryz.results145 (λ w hw=>?_)
  refine⟨x13,rfl,⟨?_,h13.2⟩,hw.rN⟩
  rw[if_neg (by omega)]
  exact h13.1
 ·refine aX ?_;refine J0 ?_;refine aB (Ot b1 (iH b t) 0 3 hB rfl rfl) rfl ?_;refine aB (Ot b0 (nd.cells:List Value) 0 14 hB rfl rfl) rfl ?_;(refine aB (bY (by(repeat (first|exact cE _|(apply bU;focus ((conv=>{lhs;whnf});try exact rfl))));done)) rfl ?_);refine aC (Cm (λ w1 hw=>Jm (nd:=nd) ht hT hv ho he hst ok hm hA hB hw)) (λ x17 h17=>?_);refine bW (gK λ _=>bA rf cN rf (cK _) dI rf jB) (λ _=>?_);refine aG ?_
  refine bB Tryz.results145 (λ w hw=>?_)
  refine⟨x17,rfl,⟨?_,h17.2⟩,hw.rN⟩
  rw[if_pos (by omega)]
  exact h17.1
theorem kr{K:Int->Tr}{v:Int}{s:Mm}{b1 b3:Nat}(ht:t.root<=9223372036854775807)(hK:zS b K s f cap B)(hv:v<=s.nodes.length):oE b 144 [pt b1,pt b3] [.int .i64 v] (bx b1 (iH b t)::bx b3 [fn f cap]::B) s (.node v λ n=>if n.kind=2 then K v else .node v λ n=>.load n.status λ s=>if s=0 then oR t v (.node v λ n=>.load n.status λ s=>mI t v s K) else mI t v s K):=by
 intro a D A w em ok hm hA hB hw0
 subst em
 have hK2:=hK.more (B2:=(bx b1 (iH b t)::bx b3 [fn f cap]::B)) (λ x hx=>by simp[hx])
 have nv:=C5 ok v
 refine enter Tryz.func144 Tryz.ntmps144 rfl rfl hw0 ?_
 simp only[bX]
 refine J0 ?_;refine bL (λ x3=>?_);refine aI (λ x4=>?_);refine aG ?_;refine J0 ?_;refine aE ?_;refine aB (mU b1 (iH b t) 0 hB rfl) rfl ?_;refine bN ?_;refine aC (It v ok hm hA hv) (λ x9 h9=>?_);refine aI (λ x5=>?_);refine J5 ?_;refine D7 ?_;refine uB ?_
 refine bC (λ c12=>?_) (λ c12=>?_)
 ·refine J0 ?_;refine aB (mU b3 [fn f cap] 0 hB rfl) rfl ?_;refine bN ?_;refine aC (Kr hK2.1 (hK2.2 v a.mm (Mm.Le.refl _) hv) ok hm hA hB) (λ x15 h15=>?_);refine bW (gK λ _=>bA rf cN rf (cK _) dI rf jB) (λ _=>?_);refine aG ?_
  refine bB Tryz.results144 (λ w hw=>?_)
  refine⟨x15,rfl,⟨⟨hv,?_⟩,h15.2⟩,hw.rN⟩
  rw[iM]
  dsimp only
  rw[if_pos (by assumption)]
  exact h15.1
 ·refine aX ?_;refine gM ?_;(refine aB (bY (by(repeat (first|exact cE _|(apply bU;focus ((conv=>{lhs;whnf});try exact rfl))));done)) rfl ?_);refine aP (cV (hc:=λ w1 hw=>nD _ _ _ w1)) (λ x19=>?_);refine bW (gK λ _=>bA rf cN rf (cK _) dI rf jB) (λ _=>?_);refine aG ?_
  refine bB Tryz.results144 (λ w hw=>?_)
  refine⟨(mP (aD (cW a.L) v).nd.status _ _,[bx x5 (((aD (cW a.L) v).at_ x9.1 x9.2).nd.cells:List Value),bx x3 [iv v]],a),rfl,⟨⟨hv,?_⟩,ok,(AS.iD.refl a).more (λ _ h=>(List.not_mem_nil h).elim)⟩,?_⟩
  ·rw[iM]
   dsimp only
   rw[if_neg (by assumption)]
   refine⟨hv,?_⟩
   rw[iM]
   refine⟨rfl,lW hm nv.status,_,_,rfl,by kernel_rfl,λ x s1 l hx=>?_⟩
   have hlen:=l.len
   exact(Y8 (b0:=x5) (b1:=b1) (b2:=x3) (b3:=b3) (nd:=((aD (cW a.L) v).at_ x9.1 x9.2).nd) ht (hK.le l) (by omega) (by rw[l.nd hv,iM];rfl) (by rw[l.nd hv,iM];rfl) (by rw[l.nd hv,iM];rfl)).mr (λ y hy=>by
   simp only[List.mem_cons,List.append_eq,List.nil_append,List.mem_append,List.not_mem_nil,or_false] at hy ⊢
   rcases hy with h|h|h|h|h<;>simp[h])
  ·exact((hw.cP (.tail (.tail .head))).cP .head).rI
theorem o8{K:Int->Tr}(ht:t.root<=9223372036854775807)(hK:zS b K a.mm f cap B)(ok:a.Ok)(hm:a.mm.Small)(hA:∀f∈aK a.L,f∈A)(hB:∀x∈B,x∈A)(hs:SF w D [(b,dS a)] A [] (dZ a) w) :
  Calls Tryz.prog 102 #[.agg ⟨iH b t⟩,fn f cap] w (Ay b (λ c' s' B'=>kE b (oL t K) a.mm c' s' B') a B D w):=by
 refine enter Tryz.func102 Tryz.ntmps102 rfl rfl hs ?_
 simp only[bX]
 refine J0 ?_;refine bL (λ x2=>?_);refine bL (λ x3=>?_);refine aI (λ x4=>?_);refine aG ?_;refine J0 ?_;refine aE ?_;refine J3 ?_;(refine aB (bY (by(repeat (first|exact cE _|(apply bU;focus ((conv=>{lhs;whnf});try exact rfl))));done)) rfl ?_);refine aP (cV (hc:=λ w1 hw=>nD _ _ _ w1)) (λ x9=>?_);refine bW (gK λ _=>bA rf cN rf (cK _) dI rf jB) (λ _=>?_);refine aG ?_
 refine bB Tryz.results102 (λ w hw=>?_)
 refine⟨(mP t.root _ _,[bx x2 (iH b t),bx x3 [fn f cap]],a),rfl,⟨⟨rfl,ht,_,_,rfl,by kernel_rfl,λ v s1 l hv=>kr (b1:=x2) (b3:=x3) ht (hK.le l) hv⟩,ok,(AS.iD.refl a).more (λ _ h=>(List.not_mem_nil h).elim)⟩,?_⟩
 exact((hw.cP (.tail .head)).cP (.tail .head)).rI
end
end

end Go.Proofs.YtbajmaoegmbfgaaGreat
