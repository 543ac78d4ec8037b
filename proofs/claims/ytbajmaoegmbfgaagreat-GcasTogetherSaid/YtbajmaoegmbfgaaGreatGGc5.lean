/- gcas: Read, Swap. -/
import Derived.Test.YtbajmaoegmbfgaaGreatGGc3
import Derived.Test.YtbajmaoegmbfgaaGreatGWo1
import Derived.Test.YtbajmaoegmbfgaaGreatGLk3
import Derived.Test.YtbajmaoegmbfgaaGreatGGc0
import Derived.Test.YtbajmaoegmbfgaaGreatGVw1
import Derived.Test.YtbajmaoegmbfgaaGreatGAr8

set_option linter.unusedSimpArgs false
set_option linter.unusedVariables false
namespace Go.Proofs.YtbajmaoegmbfgaaGreat
section
open Go Go.RowKit Go.Ct
section
variable{D:List Nat}{A B:Fr}{a:AS}{b:Nat}{w:World}{f:FuncId}{cap:List Value}{t:gK}
theorem ft{K:Int->Tr}{i m:Int}{s:Mm}{bt bo bi:Nat}(ht:t.root<=9223372036854775807)(hK:Ex b K s f cap B)(hi:i<=s.nodes.length)(hmm:m<=s.nodes.length):wM b 131 [pt bo,pt bi,pt bt] [.int .i64 m] (bx bo (lJ b t)::bx bi [iv i]::bx bt [fn f cap]::B) s (qR t i m K):=by
 intro a D A w em ok hm hA hB hw0
 subst em
 have hK2:=hK.more (B2:=(bx bo (lJ b t)::bx bi [iv i]::bx bt [fn f cap]::B)) (λ x hx=>by simp[hx])
 refine enter Tryz.func131 Tryz.ntmps131 rfl rfl hw0 ?_
 simp only[bX]
 refine J0 ?_;refine aJ (λ x5=>?_);refine aH ?_;refine J0 ?_;refine aC (mw bo (lJ b t) 0 3 hB rfl rfl) rfl ?_;refine aC (qI bi [.int .i64 i] 0 hB rfl) rfl ?_;refine aA ?_;refine aC (qI bt [fn f cap] 0 hB rfl) rfl ?_;refine aD (I9 (λ w1 hw=>Kk ht hK2 hi hmm ok hm hA hB hw)) (λ x10 h10=>?_);refine cP (jA λ _=>bO rf cQ rf (dM _) eD rf kO) (λ _=>?_);refine aH ?_
 refine bC Tryz.results131 (λ w hw=>?_)
 exact⟨x10,rfl,h10,hw.rN⟩
theorem tj{K:Int->Tr}{i:Int}(ht:t.root<=9223372036854775807)(hK:Ex b K a.mm f cap B)(hi:i<=a.mm.nodes.length)(ok:a.Ok)(hm:a.mm.Small)(hA:∀f∈aK a.L,f∈A)(hB:∀x∈B,x∈A)(hs:SF w D [(b,fH a)] A [] (fM a) w) :
  Calls Tryz.prog 88 #[.agg ⟨lJ b t⟩,.int .i64 i,fn f cap] w (Ea b (λ c' s' B'=>kZ b (kR t i K) a.mm c' s' B') a B D w):=by
 have ni:=Db ok i
 refine enter Tryz.func88 Tryz.ntmps88 rfl rfl hs ?_
 simp only[bX]
 refine J0 ?_;refine bI (λ x3=>?_);refine bI (λ x4=>?_);refine bI (λ x5=>?_);refine aJ (λ x6=>?_);refine aH ?_;refine gZ ?_;refine bL ?_;refine aD (Je i ok hm hA hi) (λ x10 h10=>?_);refine cC ?_;(refine aC (dD (by(repeat (first|exact dC _|(apply cI;focus ((conv=>{lhs;whnf});try exact rfl))));done)) rfl ?_);refine aS (cV (hc:=λ w1 hw=>xS _ _ _ w1)) (λ x13=>?_);refine cP (jA λ _=>bO rf cQ rf (dM _) eD rf kO) (λ _=>?_);refine aH ?_
 refine bC Tryz.results88 (λ w hw=>?_)
 refine⟨(sH (aB (cZ a.L) i).nd.main _ _,[bx x3 (lJ b t),bx x4 [iv i],bx x5 [fn f cap]],a),rfl,⟨⟨hi,?_⟩,ok,(AS.jF.refl a).more (λ _ h=>(List.not_mem_nil h).elim)⟩,?_⟩
 ·rw[mB]
  exact⟨rfl,qL hm ni.main,_,_,rfl,by kernel_rfl,λ m s1 l hmm=>ft (bo:=x3) (bi:=x4) (bt:=x5) ht (hK.le l) (by have:=l.len;omega) hmm⟩
 ·exact(((hw.dG (.tail .head)).dG (.tail .head)).dG (.tail .head)).rI
theorem k9{K:Bool->Tr}{m n:Int}{s:Mm}{bt bn:Nat}(hK:Yg b K s f cap B):wM b 122 [pt bt,pt bn] [.int .i64 m] (bx bt [fn f cap]::bx bn [iv n]::B) s (K (m==n)):=by
 intro a D A w em ok hm hA hB hw0
 subst em
 have hK2:=hK.more (B2:=(bx bt [fn f cap]::bx bn [iv n]::B)) (λ x hx=>by simp[hx])
 refine enter Tryz.func122 Tryz.ntmps122 rfl rfl hw0 ?_
 simp only[bX]
 refine J0 ?_;refine aJ (λ x4=>?_);refine aH ?_;refine J0 ?_;refine aC (qI bt [fn f cap] 0 hB rfl) rfl ?_;refine aA ?_;refine aC (qI bn [.int .i64 n] 0 hB rfl) rfl ?_;refine mE ?_;refine aD (T5 hK2.1 (hK2.2 (m==n) a.mm (Mm.Le.refl _)) ok hm hA hB) (λ x9 h9=>?_);refine cP (jA λ _=>bO rf cQ rf (dM _) eD rf kO) (λ _=>?_);refine aH ?_
 refine bC Tryz.results122 (λ w hw=>?_)
 exact⟨x9,rfl,h9,hw.rN⟩
theorem ja{K:Bool->Tr}{i n:Int}{s:Mm}{bt bo bi bn:Nat}(ht:t.root<=9223372036854775807)(hK:Yg b K s f cap B)(hi:i<=s.nodes.length)(hnn:n<=s.nodes.length)(o:Bool):wM b 120 [pt bt,pt bo,pt bi,pt bn] [.bool o] (bx bt [fn f cap]::bx bo (lJ b t)::bx bi [iv i]::bx bn [iv n]::B) s (if o=true then qR t i n λ m=>K (m==n) else K false):=by
 intro a D A w em ok hm hA hB hw0
 subst em
 have hK2:=hK.more (B2:=(bx bt [fn f cap]::bx bo (lJ b t)::bx bi [iv i]::bx bn [iv n]::B)) (λ x hx=>by simp[hx])
 have hT:Ex b (λ m=>K (m==n)) a.mm 122 [.pointer (some ⟨bt,0,none⟩),.pointer (some ⟨bn,0,none⟩)] (bx bt [fn f cap]::bx bo (lJ b t)::bx bi [iv i]::bx bn [iv n]::B):=⟨by kernel_rfl,λ m s1 l hv=>(k9 (bt:=bt) (bn:=bn) (hK.le l)).mr (λ y hy=>by
  simp only[List.mem_cons] at hy ⊢
  rcases hy with h|h|h<;>simp[h])⟩
 refine enter Tryz.func120 Tryz.ntmps120 rfl rfl hw0 ?_
 simp only[bX]
 refine J0 ?_;refine aJ (λ x6=>?_);refine aH ?_;refine kB ?_;refine oH ?_
 refine bB (λ c8=>?_) (λ c8=>?_)
 ·refine J0 ?_;refine aC (qI bt [fn f cap] 0 hB rfl) rfl ?_;refine aD (T5 hK2.1 (hK2.2 false a.mm (Mm.Le.refl _)) ok hm hA hB) (λ x10 h10=>?_);refine cP (jA λ _=>bO rf cQ rf (dM _) eD rf kO) (λ _=>?_);refine aH ?_
  refine bC Tryz.results120 (λ w hw=>?_)
  refine⟨x10,rfl,⟨?_,h10.2⟩,hw.rN⟩
  rw[if_neg (by rw[show o=false by simpa using c8];decide)]
  exact h10.1
 ·refine bA ?_;refine J0 ?_;refine aC (mw bo (lJ b t) 0 3 hB rfl rfl) rfl ?_;refine aC (qI bi [.int .i64 i] 0 hB rfl) rfl ?_;refine aC (qI bn [.int .i64 n] 0 hB rfl) rfl ?_;(refine aC (dD (by(repeat (first|exact dC _|(apply cI;focus ((conv=>{lhs;whnf});try exact rfl))));done)) rfl ?_);refine aD (I9 (λ w1 hw=>Kk ht hT hi hnn ok hm hA hB hw)) (λ x15 h15=>?_);refine cP (jA λ _=>bO rf cQ rf (dM _) eD rf kO) (λ _=>?_);refine aH ?_
  refine bC Tryz.results120 (λ w hw=>?_)
  refine⟨x15,rfl,⟨?_,h15.2⟩,hw.rN⟩
  rw[if_pos (by simpa using c8)]
  exact h15.1
theorem qk{K:Bool->Tr}{i bK n:Int}(ht:t.root<=9223372036854775807)(hK:Yg b K a.mm f cap B)(hi:i<=a.mm.nodes.length)(hnn:n<=a.mm.nodes.length)(ok:a.Ok)(hm:a.mm.Small)(hA:∀f∈aK a.L,f∈A)(hB:∀x∈B,x∈A)(hs:SF w D [(b,fH a)] A [] (fM a) w) :
  Calls Tryz.prog 75 #[.agg ⟨lJ b t⟩,.int .i64 i,.int .i64 bK,.int .i64 n,fn f cap] w (Ea b (λ c' s' B'=>kZ b (jO t i bK n K) a.mm c' s' B') a B D w):=by
 have ni:=Db ok i
 refine enter Tryz.func75 Tryz.ntmps75 rfl rfl hs ?_
 simp only[bX]
 refine J0 ?_;refine bI (λ x5=>?_);refine bI (λ x6=>?_);refine bI (λ x8=>?_);refine bI (λ x9=>?_);refine aJ (λ x10=>?_);refine Rt ?_;refine dK [(0,[]),(1,[]),(2,[]),(5,[]),(6,[]),(7,[]),(3,[6]),(4,[]),(8,[]),(9,[])] ?_;refine kG ?_;refine bG ?_;refine aN ?_;refine bG ?_;(refine cA (i:=7) (hq:=(dD (by(repeat (first|exact dC _|(apply cI;focus ((conv=>{lhs;whnf});try exact rfl))));done))) (h:=?_));refine aZ (i:=3) (hq:=(Je i ok hm hA hi)) (h:=λ x14 h14=>?_);refine oS ?_;refine cH (i:=8) (hq:=(cV (hc:=λ w1 hw=>zF _ _ _ _ _ w1))) (h:=λ x19=>?_);refine kN (i:=9) (hq:=(jA λ _=>bO rf cQ rf (dM _) eD rf kO)) (h:=λ _=>?_);refine dY ?_
 refine bC Tryz.results75 (λ w hw=>?_)
 refine⟨(yL (aB (cZ a.L) i).nd.main bK n _ _,[bx x5 (lJ b t),bx x6 [iv i],bx x8 [iv n],bx x9 [fn f cap]],a),rfl,⟨⟨hi,?_⟩,ok,(AS.jF.refl a).more (λ _ h=>(List.not_mem_nil h).elim)⟩,?_⟩
 ·rw[mB]
  refine⟨rfl,qL hm ni.main,hnn,_,_,rfl,by kernel_rfl,λ o s1 l=>(ja (bt:=x9) (bo:=x5) (bi:=x6) (bn:=x8) ht (hK.le l) (by have:=l.len;omega) (by have:=l.len;omega) o).mr (λ y hy=>?_)⟩
  simp only[List.mem_cons,List.mem_append,List.not_mem_nil,or_false] at hy ⊢
  rcases hy with h|h|h|h|h<;>simp[h]
 ·exact((((hw.dG (.tail .head)).dG (.tail .head)).dG (.tail .head)).dG (.tail .head)).rI
end
end

/- root: decide. -/
end Go.Proofs.YtbajmaoegmbfgaaGreat
namespace Go.Ct
section
open Go Go.RowKit
theorem bE.pre{P:Program}{S:List (Nat×Value)}{G G2:World->Prop}{o:Oper}{X:Type}{V:X->Value}{G':X->World->Prop}(h:∀w,G w->G2 w)(hl:bE P S G2 o X V G'):bE P S G o X V G':=⟨λ w hw=>hl.run w (h w hw)⟩
end
end Go.Ct
namespace Go.Proofs.YtbajmaoegmbfgaaGreat
section
open Go Go.RowKit Go.Ct
section
variable{D:List Nat}{A B:Fr}{a:AS}{b:Nat}{w:World}{f:FuncId}{cap:List Value}{t:gK}
end
end

/- gcas, root: the tasks. -/
section
open Go Go.RowKit Go.Ct
theorem mS.app{b:Nat}{p:Tr×Mm}{a:AS}{B B1 F:Fr}{c:Cd}{a':AS}(h:mS b p a (B1++B) (c,F,a')):mS b p a B (c,F++B1,a'):=by
 obtain⟨⟨h1,h2⟩,h3,h4⟩:=h
 refine⟨⟨?_,h2⟩,h3,h4.more λ f hf=>List.mem_append_left _ hf⟩
 simp only at h1 ⊢
 rw[List.append_assoc]
 exact h1
section
variable{D:List Nat}{A B:Fr}{a:AS}{b:Nat}{w:World}{f:FuncId}{cap:List Value}{t:gK}
theorem K5{t:Tr}{i m:Nat}(ht:bR t i m)(h:Th0 b t a.mm f cap B)(ok:a.Ok)(hm:a.mm.Small)(hA:∀f∈aK a.L,f∈A)(hB:∀x∈B,x∈A)(hs:SF w D [(b,fH a)] A [] (fM a) w) :
  Calls Tryz.prog 73 #[.iface 42 (.pointer (some ⟨b,0,none⟩)),.func (.func f) #[] ⟨cap⟩] w λ e w'=>∃x:Nat×Cd×Fr×AS,e=.returned (.pointer (some ⟨x.1,0,none⟩))/\(mS b (Ct.iO t a.mm) a B x.2/\eH (Ct.iO t a.mm).1=true)/\SF w D ([(b,fH x.2.2.2)]++[(x.1,tO b x.2.1 0)]) [] x.2.2.1 (fM x.2.2.2++[]) w' :=
 (Z6 ht h ok hm hA hB hs).mono λ _ _ ⟨x,e,h,hw⟩=>⟨x,e,h,by rw[List.append_nil];exact hw.perm (List.Perm.swap _ _ _) (List.Perm.refl _)⟩
theorem yy{s:Mm}(v:Int):zK b 89 [] [.int .i64 v] B s (λ c' s' B'=>kZ b (.done (lV v false)) s c' s' B'):=by
 intro a D A w em ok hm hA hB hw0
 subst em
 refine enter Tryz.func89 Tryz.ntmps89 rfl rfl hw0 ?_
 simp only[bX]
 refine J0 ?_;refine aJ (λ x2=>?_);refine aH ?_;refine J2 ?_;refine bJ ?_;refine aS (cV (hc:=λ w1 hw=>Xd (lV v false) w1)) (λ x5=>?_);refine J5 ?_
 refine bC Tryz.results89 (λ w hw=>?_)
 exact⟨(B3 (lV v false),[],a),rfl,⟨⟨rfl,rfl⟩,ok,AS.jF.refl a⟩,hw.rI⟩
theorem ya{s:Mm}(v:Bool):zK b 76 [] [.bool v] B s (λ c' s' B'=>kZ b (.done (lV 0 v)) s c' s' B'):=by
 intro a D A w em ok hm hA hB hw0
 subst em
 refine enter Tryz.func76 Tryz.ntmps76 rfl rfl hw0 ?_
 simp only[bX]
 refine J0 ?_;refine aJ (λ x2=>?_);refine aH ?_;refine J2 ?_;refine bJ ?_;refine aS (cV (hc:=λ w1 hw=>Xd (lV 0 v) w1)) (λ x5=>?_);refine J5 ?_
 refine bC Tryz.results76 (λ w hw=>?_)
 exact⟨(B3 (lV 0 v),[],a),rfl,⟨⟨rfl,rfl⟩,ok,AS.jF.refl a⟩,hw.rI⟩
theorem aAc{i:Int}{s:Mm}{bo bi:Nat}(ht:t.root<=9223372036854775807)(hi:i<=s.nodes.length):wM b 87 [pt bo,pt bi] [] (bx bo (lJ b t)::bx bi [iv i]::B) s (kR t i λ r=>.done (lV r false)):=by
 intro a D A w em ok hm hA hB hw0
 subst em
 have hT:Ex b (λ r=>.done (lV r false)) a.mm 89 [] (bx bo (lJ b t)::bx bi [iv i]::B):=⟨by kernel_rfl,λ v s1 l hv=>yy v⟩
 refine enter Tryz.func87 Tryz.ntmps87 rfl rfl hw0 ?_
 simp only[bX]
 refine J0 ?_;refine aJ (λ x2=>?_);refine aH ?_;refine J0 ?_;refine aC (mw bo (lJ b t) 0 3 hB rfl rfl) rfl ?_;refine aC (qI bi [.int .i64 i] 0 hB rfl) rfl ?_;refine aD (I9 (λ w1 hw=>tj ht hT hi ok hm hA hB hw)) (λ x5 h5=>?_);refine cP (jA λ _=>bO rf cQ rf (dM _) eD rf kO) (λ _=>?_);refine aH ?_
 refine bC Tryz.results87 (λ w hw=>?_)
 exact⟨x5,rfl,h5,hw.rN⟩
theorem xr{i bK n:Int}{s:Mm}{bo bi bl bn:Nat}(ht:t.root<=9223372036854775807)(hi:i<=s.nodes.length)(hnn:n<=s.nodes.length):wM b 74 [pt bo,pt bi,pt bl,pt bn] [] (bx bo (lJ b t)::bx bi [iv i]::bx bl [iv bK]::bx bn [iv n]::B) s (jO t i bK n λ ok=>.done (lV 0 ok)):=by
 intro a D A w em ok hm hA hB hw0
 subst em
 have hT:Yg b (λ ok=>.done (lV 0 ok)) a.mm 76 [] (bx bo (lJ b t)::bx bi [iv i]::bx bl [iv bK]::bx bn [iv n]::B):=⟨by kernel_rfl,λ v s1 l=>ya v⟩
 refine enter Tryz.func74 Tryz.ntmps74 rfl rfl hw0 ?_
 simp only[bX]
 refine J0 ?_;refine aJ (λ x4=>?_);refine aH ?_;refine J0 ?_;refine aC (mw bo (lJ b t) 0 3 hB rfl rfl) rfl ?_;refine aC (qI bi [.int .i64 i] 0 hB rfl) rfl ?_;refine aC (qI bl [.int .i64 bK] 0 hB rfl) rfl ?_;refine aC (qI bn [.int .i64 n] 0 hB rfl) rfl ?_;refine aD (I9 (λ w1 hw=>qk ht hT hi hnn ok hm hA hB hw)) (λ x9 h9=>?_);refine cP (jA λ _=>bO rf cQ rf (dM _) eD rf kO) (λ _=>?_);refine aH ?_
 refine bC Tryz.results74 (λ w hw=>?_)
 exact⟨x9,rfl,h9,hw.rN⟩
theorem Qw{i:Int}(ht:t.root<=9223372036854775807)(hi:i<=a.mm.nodes.length){n m:Nat}(hT:bR (kR t i λ r=>.done (lV r false)) n m)(ok:a.Ok)(hm:a.mm.Small)(hA:∀f∈aK a.L,f∈A)(hB:∀x∈B,x∈A)(hs:SF w D [(b,fH a)] A [] (fM a) w) :
  Calls Tryz.prog 38 #[.iface 42 (.pointer (some ⟨b,0,none⟩)),.agg ⟨[.int .i64 t.root,.bool t.ro]⟩,.int .i64 i] w λ e w'=>∃x:Nat×Cd×Fr×AS,e=.returned (.pointer (some ⟨x.1,0,none⟩))/\(mS b (Ct.iO (kR t i λ r=>.done (lV r false)) a.mm) a B x.2/\eH (Ct.iO (kR t i λ r=>.done (lV r false)) a.mm).1=true)/\SF w D [(x.1,tO b x.2.1 0),(b,fH x.2.2.2)] [] x.2.2.1 (fM x.2.2.2) w':=by
 refine enter Tryz.func38 Tryz.ntmps38 rfl rfl hs ?_
 simp only[bX]
 refine J0 ?_;refine bI (λ x4=>?_);refine bI (λ x5=>?_);refine J1 ?_;refine J2 ?_;refine bL ?_;refine bJ ?_;refine aJ (λ x7=>?_);refine J5 ?_;refine J2 ?_;(refine aC (dD (by(repeat (first|exact dC _|(apply cI;focus ((conv=>{lhs;whnf});try exact rfl))));done)) rfl ?_);(refine aS (bE.pre (λ w h=>(show SF _ _ [_,(b,fH a)] _ ([bx x7 (lJ b t),bx x5 [iv i]]:Fr) _ w from(h.dG (.tail .head)).dG .head)) (Sh (V:=λ x:Nat×Cd×Fr×AS=>.pointer (some ⟨x.1,0,none⟩)) (hs:=[(b,fH a)]) (os:=fM a) (hs':=λ x=>[(b,fH x.2.2.2)]) (Hc:=λ x=>[(x.1,tO b x.2.1 0)]) (os':=λ x=>fM x.2.2.2) (Oc:=λ _=>[]) (Fc:=λ x=>x.2.2.1) (A0:=[bx x7 (lJ b t),bx x5 [iv i]]++A) (hA:=aW.iw) (hc:=λ w1 hw=>K5 (B:=[bx x7 (lJ b t),bx x5 [iv i]]++B) hT ⟨by kernel_rfl,λ s1 l=>aAc ht (by have:=l.len;omega)⟩ ok hm (λ f hf=>List.mem_append_right _ (hA f hf)) (H5 hB) hw))) (λ x13=>?_);try (refine eX (λ h13=>?_)));refine J1 ?_
 refine aT Tryz.results38 (λ w hw=>?_)
 exact⟨(x13.1,x13.2.1,x13.2.2.1++[bx x7 (lJ b t),bx x5 [iv i]],x13.2.2.2),rfl,⟨mS.app h13.1,h13.2⟩,hw.ret (by repeat (first|exact List.Sublist.refl _|apply List.Sublist.cons_cons|apply List.Sublist.cons)) (aY.hX λ f hf=>hf) (by repeat (exact List.Sublist.refl _))⟩
theorem Oh{i bK nw:Int}(ht:t.root<=9223372036854775807)(hi:i<=a.mm.nodes.length)(hnn:nw<=a.mm.nodes.length){n m:Nat}(hT:bR (jO t i bK nw λ ok=>.done (lV 0 ok)) n m)(ok:a.Ok)(hm:a.mm.Small)(hA:∀f∈aK a.L,f∈A)(hB:∀x∈B,x∈A)(hs:SF w D [(b,fH a)] A [] (fM a) w) :
  Calls Tryz.prog 28 #[.iface 42 (.pointer (some ⟨b,0,none⟩)),.agg ⟨[.int .i64 t.root,.bool t.ro]⟩,.int .i64 i,.int .i64 bK,.int .i64 nw] w λ e w'=>∃x:Nat×Cd×Fr×AS,e=.returned (.pointer (some ⟨x.1,0,none⟩))/\(mS b (Ct.iO (jO t i bK nw λ ok=>.done (lV 0 ok)) a.mm) a B x.2/\eH (Ct.iO (jO t i bK nw λ ok=>.done (lV 0 ok)) a.mm).1=true)/\SF w D [(x.1,tO b x.2.1 0),(b,fH x.2.2.2)] [] x.2.2.1 (fM x.2.2.2) w':=by
 refine enter Tryz.func28 Tryz.ntmps28 rfl rfl hs ?_
 simp only[bX]
 refine J0 ?_;refine bI (λ x6=>?_);refine bI (λ x7=>?_);refine bI (λ x8=>?_);refine bI (λ x9=>?_);refine J1 ?_;refine J2 ?_;refine bL ?_;refine bJ ?_;refine aJ (λ x11=>?_);refine J5 ?_;refine J2 ?_;(refine aC (dD (by(repeat (first|exact dC _|(apply cI;focus ((conv=>{lhs;whnf});try exact rfl))));done)) rfl ?_);(refine aS (bE.pre (λ w h=>(show SF _ _ [_,(b,fH a)] _ ([bx x11 (lJ b t),bx x7 [iv i],bx x8 [iv bK],bx x9 [iv nw]]:Fr) _ w from(((h.dG (.tail .head)).dG (.tail .head)).dG (.tail .head)).dG .head)) (Sh (V:=λ x:Nat×Cd×Fr×AS=>.pointer (some ⟨x.1,0,none⟩)) (hs:=[(b,fH a)]) (os:=fM a) (hs':=λ x=>[(b,fH x.2.2.2)]) (Hc:=λ x=>[(x.1,tO b x.2.1 0)]) (os':=λ x=>fM x.2.2.2) (Oc:=λ _=>[]) (Fc:=λ x=>x.2.2.1) (A0:=[bx x11 (lJ b t),bx x7 [iv i],bx x8 [iv bK],bx x9 [iv nw]]++A) (hA:=aW.iw) (hc:=λ w1 hw=>K5 (B:=[bx x11 (lJ b t),bx x7 [iv i],bx x8 [iv bK],bx x9 [iv nw]]++B) hT ⟨by kernel_rfl,λ s1 l=>xr ht (by have:=l.len;omega) (by have:=l.len;omega)⟩ ok hm (λ f hf=>List.mem_append_right _ (hA f hf)) (H5 hB) hw))) (λ x17=>?_);try (refine eX (λ h17=>?_)));refine J1 ?_
 refine aT Tryz.results28 (λ w hw=>?_)
 exact⟨(x17.1,x17.2.1,x17.2.2.1++[bx x11 (lJ b t),bx x7 [iv i],bx x8 [iv bK],bx x9 [iv nw]],x17.2.2.2),rfl,⟨mS.app h17.1,h17.2⟩,hw.ret (by repeat (first|exact List.Sublist.refl _|apply List.Sublist.cons_cons|apply List.Sublist.cons)) (aY.hX λ f hf=>hf) (by repeat (exact List.Sublist.refl _))⟩
end
end

/- root: Help. -/
section
open Go Go.RowKit Go.Ct
section
variable{D:List Nat}{A B:Fr}{a:AS}{b:Nat}{w:World}{f:FuncId}{cap:List Value}{t:gK}
end
end

/- root: Replace. -/
section
open Go Go.RowKit Go.Ct
section
variable{D:List Nat}{A B:Fr}{a:AS}{b:Nat}{w:World}{f:FuncId}{cap:List Value}{t:gK}
end
end

/- root: the tasks. -/
section
open Go Go.RowKit Go.Ct
section
variable{D:List Nat}{A B:Fr}{a:AS}{b:Nat}{w:World}{f:FuncId}{cap:List Value}{t:gK}
end
end

/- The laws of root: a world, an arena, a trie; the sanity check. -/
end Go.Proofs.YtbajmaoegmbfgaaGreat
namespace Go.Ct
section
open Go Go.RowKit
end
end Go.Ct
namespace Go.Proofs.YtbajmaoegmbfgaaGreat
section
open Go Go.RowKit Go.Ct
structure TQ where
 bw:Nat
 bm:Nat
 m:Nat
 W:Wd
 ba:Nat
 a:AS
 j:Nat
 tp:Nat
 pos:Nat
structure Td(q:TQ):Prop where
 m:q.m<18446744073709551616
 W:P9 q.m 2415922570 1048594 18 q.W
 j:q.j<q.W.ts.length
 mm:q.a.mm=q.W.z.mm
 a:q.a.Ok
abbrev TQ.t(q:TQ):gK:=q.W.ts.getD q.j ⟨0,false⟩
theorem Td.root{q:TQ}(h:Td q):q.t.root<=9223372036854775807:=h.W.root (by decide) (Bb h.j)
theorem Td.sm{q:TQ}(h:Td q):q.a.mm.Small:=by
 obtain⟨s1,s2,s3⟩:=h.W.sz
 rw[h.mm]
 refine⟨?_,?_⟩
 ·show(q.W.z.L.map aP.c).length<=_
  rw[List.length_map];omega
 ·show q.W.z.cs.length<=_;omega
theorem V2{z:XS}(h:z.Ok):z.a0.Ok:=⟨h.fit,h.nd,h.cs,h.got,h.made,h.two,h.lL,h.lc,h.lg,h.la,h.lm,h.lk,h.le,h.fr,h.ys,h.gen0,h.ms,h.m1⟩
theorem Td.lok{q:TQ}(h:Td q):Bo q.ba 2415922570 0 ⟨q.a,q.W.z.a0,[],[]⟩:=.none (V2 h.W.z) h.a h.mm h.W.sz
abbrev tqO(q:TQ):List Ow:=fM q.a++jZ q.W.z
end

/- The laws of root: the sanity check. -/
section
open Go Go.RowKit Go.Ct
theorem Yb(x y:AX):gV (L4 x y) [0,3,4] 1 :=
 oT (m:=0) (B:=8) (C:=0) (E:=0) (W:=⟨XS.new (L4 x y) [0,3,4] 1 0 none 0 none 0,[⟨3,false⟩],none,0,[],none,0⟩) ⟨W0 _ _ _ _ _ _ _,⟨by show 4<=8;decide,by show 3<=8;decide,by show(1:Int)<=((8:Nat):Int);decide⟩,(λ e he=>nomatch he),by show 0<1;decide,rfl,by show 1<=5;decide,Nat.le_refl _,.new⟩
section
variable{D:List Nat}{A B:Fr}{a0 a:AS}{b bt n m most:Nat}{w:World}{c:Cd}{F:Fr}{p:Tr×Mm}
theorem iu(hp:mS b p a0 B (c,F,a))(ha:eH p.1=true)(ht:bR p.1 m 64)(hmm:most<=m)(hm:p.2.nodes.length+64*most<=137438953472/\p.2.cs.length+64*most<=137438953472)(hn:n+most<1000000000)(hA:∀f∈aK a.L,f∈A)(hB:∀x∈F++B,x∈A)(hs:SF w D [(bt,tO b c n),(b,fH a)] A [] (fM a) w) :
  Calls Tryz.prog 30 #[.pointer (some ⟨bt,0,none⟩),.int .i64 ((most:Nat):Int)] w λ e w'=>∃y:Cd×Fr×AS,e=.returned (.int .i64 ((Am p most:Nat):Int))/\TkI b (uM p most) a (F++B) y/\SF w D [(bt,tO b y.1 (n+Am p most)),(b,fH y.2.2)] [] y.2.1 (fM y.2.2) w':=by
 obtain⟨⟨h1,h2⟩,h3,h4⟩:=hp
 simp only at h1 h2 h3
 have e:(p.1,a.mm)=p:=by rw[h2]
 have:=m6 (b:=b) (bt:=bt) (n:=n) (D:=D) (A:=A) (B:=F++B) (w:=w) (most:=most) ht hmm ha (a:=a) (c:=c) (by rw[h2];exact h1) h3 (by rw[h2];exact hm) hn hA hB hs
 rw[e] at this
 exact this
end
end

/- The laws of gcas: the sanity check. -/
section
open Go Go.RowKit Go.Ct
abbrev ny:Nd:={Nd.zero with kind:=3}
def Ld:Mm:=mm0.push (ny.c [] []) 3
def Qr:Tr:=jO ⟨3,false⟩ 4 3 5 λ ok=>.done (lV 0 ok)
theorem A8:bR Qr 20 64:=by
 have h:Qr=kU ⟨2,⟨3,false⟩,4,3,5,0,0,0,⟨#[]⟩,0,0,0,false⟩ 0 21:=by
  unfold Qr kU
  rfl
 rw[h]
 exact Jy (by decide)
theorem aAu:uM (Ct.iO Qr Ld) 9=(.done (lV 0 true),(uM (Ct.iO Qr Ld) 9).2)/\Am (Ct.iO Qr Ld) 9=5/\bU (uM (Ct.iO Qr Ld) 9).2.cs 2=5/\(cD (uM (Ct.iO Qr Ld) 9).2.nodes 4).main=2/\(uM (Ct.iO Qr Ld) 9).2.nodes.length=5:=⟨rfl,rfl,rfl,rfl,rfl⟩
theorem ye:(Ct.iO Qr Ld).2.nodes.length=5/\(Ct.iO Qr Ld).2.cs.length=4:=⟨rfl,rfl⟩
theorem o4{D:List Nat}{A B F:Fr}{a0 a:AS}{b bt:Nat}{c:Cd}{w:World}(hp:mS b (Ct.iO Qr Ld) a0 B (c,F,a))(hA:∀f∈aK a.L,f∈A)(hB:∀x∈F++B,x∈A)(hs:SF w D [(bt,tO b c 0),(b,fH a)] A [] (fM a) w) :
  Calls Tryz.prog 30 #[.pointer (some ⟨bt,0,none⟩),.int .i64 9] w λ e w'=>∃y:Fr×AS,e=.returned (.int .i64 5)/\(bU y.2.cs 2=5/\(aB (cZ y.2.L) 4).nd.main=2/\y.2.Ok/\y.2.mm.Small/\a.jF y.2 y.1/\(4:Int)<=y.2.mm.nodes.length)/\SF w D [(bt,tO b (B3 (lV 0 true)) 5),(b,fH y.2)] [] y.1 (fM y.2) w':=by
 obtain⟨e1,e2,e3,e4,e5⟩:=aAu
 obtain⟨g1,g2⟩:=ye
 refine(iu (n:=0) (m:=20) (most:=9) hp (nY Ld A8) (nS Ld A8 64) (by decide) ⟨by omega,by omega⟩ (by decide) hA hB hs).mono λ e w' ⟨y,h1,h2,hw⟩=>?_
 have h3:=h2.rp
 rw[e1] at h3
 obtain⟨_,h4⟩:=h3
 have h5:y.2.2.cs=(uM (Ct.iO Qr Ld) 9).2.cs:=congrArg Mm.cs h2.mm
 have h7:(cZ y.2.2.L).map aP.c=(uM (Ct.iO Qr Ld) 9).2.nodes:=congrArg Mm.nodes h2.mm
 obtain⟨_,_,_,h6⟩:=F9 (nS Ld A8 64) (nY Ld A8) 9 (by decide) (s:=(Ct.iO Qr Ld).2)
 have h6':(uM (Ct.iO Qr Ld) 9).2.cs.length<=(Ct.iO Qr Ld).2.cs.length+64*9:=h6
 rw[e2,h4] at hw
 refine⟨(y.2.1,y.2.2),by rw[h1,e2];rfl,⟨by show bU y.2.2.cs 2=5;rw[h5];exact e3,?_,h2.ok,?_,h2.gr,?_⟩,hw⟩
 ·rw[<- h7,<- Ak] at e4
  exact e4
 ·rw[h2.mm]
  exact⟨by rw[e5];decide,by omega⟩
 ·show(4:Int)<=y.2.2.mm.nodes.length
  rw[h2.mm,e5];decide
set_option maxRecDepth 100000 in
set_option maxHeartbeats 1000000 in
theorem Xv(w:World):Calls Tryz.prog 72 #[] w λ e w'=>∃q:Nat×AS,e=.returned (.tuple #[.pointer (some ⟨q.1,0,none⟩),.agg ⟨[.int .i64 3,.bool false]⟩,.int .i64 4,.int .i64 3,.int .i64 5])/\(q.2.mm=Ld/\q.2.Ok)/\SF w [] [(q.1,fH q.2)] [] (aK q.2.L) (fM q.2) w':=by
 refine enter Tryz.func72 Tryz.ntmps72 rfl rfl (SF.s0 w) ?_
 simp only[bX]
 refine J0 ?_;refine eJ (λ _=>?_);refine aJ (λ x1=>?_);refine eJ (λ _=>?_);refine J8 ?_;refine J0 ?_;refine aD (Pn (Fc:=λ _=>[]) (hc:=λ w1 hw=>ml w1)) (λ x6 h6=>?_);refine J1 ?_;refine J2 ?_;refine aD (cM (hc:=λ w hs=>Po hs)) (λ x8 h8=>?_);refine J5 ?_;refine Ia ?_;refine aC (aQ (k:=3) rf cQ eD (by simp only[List.drop_zero,List.take_succ_cons,List.take_zero];exact rfl) rfl) rfl ?_;refine aD (Pn (V:=λ x:Nat×List aP×(Option Addr×Nat)×(Option Addr×Nat)=>.tuple #[.pointer (some ⟨x.1,0,none⟩),.int .i64 0]) (Hc:=λ x=>[(x.1,aO x.2.1 [0,3,4] 1 0 x.2.2.1.1 x.2.2.1.2 x.2.2.2.1 x.2.2.2.2)]) (Fc:=λ x=>aK x.2.1) (Oc:=λ x=>mW x.2.1 [0,3,4] x.2.2.1.1 x.2.2.1.2 x.2.2.2.1 x.2.2.2.2) (hc:=λ w1 hw=>j5 (L:=L4 x8.1 x8.2.1) (cs:=[0,3,4]) (hw.zO (.inr (.inr (.inr ⟨_,.head _,rfl,rfl⟩))) (.inr (.inr (.inr ⟨_,.tail _ (.head _),rfl,rfl⟩))) (λ f hf=>.inl (lb f hf)) (W0 x8.1 x8.2.1 0 none 0 none 0).fit) (by show 4<=_;decide) (by decide) (hw.yi .head) (Yb _ _))) (λ x14 h14=>?_)
 obtain⟨a0,ha0⟩:∃a:AS,a=⟨x14.2.1,[0,3,4],1,0,x14.2.2.1.1,x14.2.2.1.2,x14.2.2.2.1,x14.2.2.2.2⟩:=⟨_,rfl⟩
 have hmm:a0.mm=mm0:=by rw[ha0];show Mm.mk ((cZ x14.2.1).map aP.c) [0,3,4] 1=mm0;rw[h14.1];rfl
 have hok:a0.Ok:=⟨by rw[ha0];exact h14.2,by rw[hmm];exact(W0 x8.1 x8.2.1 0 none 0 none 0).mo⟩
 have hsm:a0.mm.Small:=by rw[hmm];exact⟨by decide,by decide⟩
 have hoA:∀x:AX,(a0.al ny [] [] 3 x).Ok:=λ x=>hok.al x (by simp) (by simp) ⟨bH _,bH _,bH _,(λ r hr=>nomatch hr),bH _,bH _,bH _,⟨0,rfl,by decide⟩,⟨0,rfl,by decide⟩⟩ (by rw[hmm];decide)
 have hmA:∀x:AX,(a0.al ny [] [] 3 x).mm=Ld:=λ x=>by rw[Bg,hmm];rfl
 refine Ev ?_;refine iB ?_;refine J2 ?_;refine uG ?_
 refine bB (λ c18=>?_) (λ c18=>?_)
 ·cases c18
 ·refine jV ?_;refine dK [(0,[]),(1,[]),(2,[]),(3,[]),(4,[1]),(5,[1]),(6,[]),(7,[]),(8,[]),(9,[])] ?_;refine aN ?_;refine bG ?_;refine aN ?_;refine fA ?_;refine aZ (i:=4) (hq:=(cM (V:=λ _:AX=>.int .i64 5) (hs:=[(x14.1,fH a0)]) (os:=fM a0) (A0:=[(none,aG []),(none,cU [])]) (hs':=λ x=>[(x14.1,fH (a0.al ny [] [] 3 x))]) (os':=λ x=>fM (a0.al ny [] [] 3 x)) (Fc:=λ x=>(kV ny [] [] a0.cs.length x).fr) (hH:=by rw[ha0];exact .cons .head .nil) (hO:=by rw[ha0];exact .cons .head (.cons .head .nil)) (hc:=λ w1 hw=>by have:=Gv (n:=ny) (xs:=[]) (ys:=[]) hok hsm 3 rfl rfl (by simp) (by simp) (λ f hf=>hf) hw;rw[hmm] at this;exact this))) (h:=λ x24 h24=>?_);refine iJ (h:=λ _=>?_);refine mK (h:=λ _=>?_);refine iJ (h:=λ _=>?_);refine Rn ?_
  refine bC Tryz.results72 (λ w hw=>?_)
  have hw:=hw.eY (F':=aK (a0.al ny [] [] 3 x24).L) λ f hf=>((AS.jF.al a0 ny [] [] 3 x24).fam f hf).imp_right λ h=>h.elim (λ h=>List.mem_append_right _ (by rw[ha0] at h;exact List.mem_append_left _ h)) λ h=>List.mem_append_left _ h
  exact⟨(x14.1,a0.al ny [] [] 3 x24),rfl,⟨hmA x24,hoA x24⟩,hw.ret (by repeat (first|exact List.nil_sublist _|apply List.Sublist.cons_cons)) aY.all (by repeat (first|exact List.nil_sublist _|apply List.Sublist.cons_cons))⟩
set_option maxRecDepth 100000 in
set_option maxHeartbeats 1000000 in
theorem Ki(w:World):Calls Tryz.prog 27 #[] w λ e w'=>e=.returned (.bool true)/\St w [] [] w':=by
 refine enter Tryz.func27 Tryz.ntmps27 rfl rfl (SF.s0 w) ?_
 simp only[bX]
 refine cO ?_;refine J0 ?_;refine aD (Pn (V:=λ q:Nat×AS=>.tuple #[.pointer (some ⟨q.1,0,none⟩),.agg ⟨[.int .i64 3,.bool false]⟩,.int .i64 4,.int .i64 3,.int .i64 5]) (Hc:=λ q=>[(q.1,fH q.2)]) (Fc:=λ q=>aK q.2.L) (Oc:=λ q=>fM q.2) (hc:=λ w1 hw=>Xv w1)) (λ x8 h8=>?_)
 obtain⟨hmm,hok⟩:=h8
 refine Ev ?_;refine J54 ?_;refine xI ?_;refine aJ (λ x2=>?_);refine eJ (λ _=>?_);refine gY (λ _=>?_);refine eJ (λ _=>?_);refine J8 ?_;refine kB ?_;refine uG ?_
 refine bB (λ c15=>?_) (λ c15=>?_)
 ·try (contradiction)
 ·try (first|contradiction|(exfalso;omega))
  refine bA ?_;refine J2 ?_;refine aC (bh rf (λ w=>Cn _ w)) rfl ?_;refine bL ?_;refine pE ?_;refine aA ?_;refine aD (Sh (V:=λ x:Nat×Cd×Fr×AS=>.pointer (some ⟨x.1,0,none⟩)) (hs:=[(x8.1,fH x8.2)]) (os:=fM x8.2) (hs':=λ x=>[(x8.1,fH x.2.2.2)]) (Hc:=λ x=>[(x.1,tO x8.1 x.2.1 0)]) (os':=λ x=>fM x.2.2.2) (Oc:=λ _=>[]) (Fc:=λ x=>x.2.2.1) (A0:=aK x8.2.L) (hA:=aW.of λ f hf=>.inr (.inr (.inl (by simpa using hf)))) (hc:=λ w1 hw=>by have:=En (Oh (t:=⟨3,false⟩) (i:=4) (bK:=3) (nw:=5) (B:=[]) (n:=20) (m:=64) (by decide) (by rw[hmm];decide) (by rw[hmm];decide) A8 hok (by rw[hmm];exact⟨by decide,by decide⟩) (λ f hf=>hf) (λ x hx=>nomatch hx) hw);rw[hmm] at this;exact this)) (λ x22 h22=>?_);refine J1 ?_;refine J2 ?_;refine lS ?_;refine aA ?_
  (refine aF ?_;refine aA ?_)
  ((refine aF ?_;refine aD (cM (V:=λ y:Fr×AS=>.int .i64 5) (hs:=[(x22.1,tO x8.1 x22.2.1 0),(x8.1,fH x22.2.2.2)]) (os:=fM x22.2.2.2) (hs':=λ y=>[(x22.1,tO x8.1 (B3 (lV 0 true)) 5),(x8.1,fH y.2)]) (os':=λ y=>fM y.2) (Fc:=λ y=>y.1) (A0:=aK x22.2.2.2.L++(x22.2.2.1++[])) (hA:=aW.of λ f hf=>(List.mem_append.1 hf).elim (λ h=>(h22.1.2.2.fam f h).imp_right λ h=>.inr (.inl (h.elim (λ h=>List.mem_append_right _ (by simpa using h)) λ h=>List.mem_append_left _ h))) λ h=>.inr (.inr (.inl (List.mem_append_left _ (by simpa using h))))) (hc:=λ w1 hw=>o4 h22.1 (λ f hf=>List.mem_append_left _ hf) (λ f hf=>List.mem_append_right _ hf) hw)) (λ x27 h27=>?_)));refine wK ?_;refine aA ?_
  (refine aF ?_;refine aA ?_)
  ((refine aF ?_;refine aS (cV (hc:=λ w1 hw=>zR (r:=lV 0 true) (d:=true) rfl (if_pos rfl) (hw.st.at cQ))) (λ x32=>?_)));((refine aF ?_;refine cC ?_));refine cB ?_;refine aA ?_
  (refine aF ?_;refine aA ?_)
  ((refine aF ?_;refine aA ?_));((refine aF ?_;refine aA ?_));((refine aF ?_;refine aD (Sh (V:=λ q:Option Addr×Option Addr=>.agg ⟨((aB (cZ x27.2.L) 4).at_ q.1 q.2).nd.cells⟩) (hs:=[(x8.1,fH x27.2)]) (os:=fM x27.2) (hs':=λ _=>[(x8.1,fH x27.2)]) (Hc:=λ _=>[]) (os':=λ _=>fM x27.2) (Oc:=λ q=>[⟨q.2,cU (aB (cZ x27.2.L) 4).ys,(aB (cZ x27.2.L) 4).ys.length,164,2⟩,⟨q.1,aG (aB (cZ x27.2.L) 4).xs,(aB (cZ x27.2.L) 4).xs.length,37,1⟩]) (Fc:=λ _=>[]) (A0:=aK x27.2.L) (hA:=aW.of λ f hf=>(h27.2.2.2.2.1.fam f hf).elim .inl λ h=>h.elim (λ h=>(h22.1.2.2.fam f h).imp_right λ h=>.inr (.inl (List.mem_append_right _ (h.elim (λ h=>List.mem_append_right _ (by simpa using h)) λ h=>List.mem_append_left _ h)))) λ h=>.inr (.inr (.inl (List.mem_append_left _ h)))) (hc:=λ w1 hw=>Vi h27.2.2.1 h27.2.2.2.1 (λ f hf=>hf) 4 h27.2.2.2.2.2 hw)) (λ x39 h39=>?_)));((refine aF ?_;refine aC (M5 rf (by exact Ln rfl) (show _=some (Value.int .i64 2) by rw[<- h27.2.1];rfl)) rfl ?_));((refine aF ?_;refine aD (cM (V:=λ _:Unit=>.int .i64 5) (hs:=[(x8.1,fH x27.2)]) (os:=fM x27.2) (hs':=λ _=>[(x8.1,fH {x27.2 with acc:=up x27.2.acc})]) (os':=λ _=>fM x27.2) (Fc:=λ _=>[]) (hc:=λ w1 hw=>by rw[<- h27.1];exact Vc hw 2 (by decide) (Nat.le_trans (show x27.2.cs.length<=137438953472 from h27.2.2.2.1.2) (by decide)))) (λ x41 h41=>?_)));((refine aF ?_;refine aA ?_));refine wK ?_;refine J1 ?_
  refine aT Tryz.results27 (λ w hw=>?_)
  exact⟨rfl,hw.done⟩
end

/- Views: the root of a trie, the main node of an I-node. -/
end Go.Proofs.YtbajmaoegmbfgaaGreat
namespace Go.Ct
section
open Go Go.RowKit
theorem oF.L9{L:List aP}{cs:List Int}{pn pc:Option Addr}{w w0:World}{M:List Nat}{H:List (Nat×Obj)}{F:Fr}{O:List Ow}(h:oF w0 L cs pn pc)(hw:SF w0 M H ((pn,hU L)::(pc,aG cs)::aK L) F O w):oF w L cs pn pc:=hw.zO (.inr (.inl (.head _))) (.inr (.inl (.tail _ (.head _)))) (λ f hf=>.inr (.inl (.tail _ (.tail _ hf)))) h.fit
theorem cY(L:List aP)(r:Int):cD (L.map aP.c) r=(aB L r).c:=(Ak L r).symm
end
end Go.Ct
namespace Go.Proofs.YtbajmaoegmbfgaaGreat
section
open Go Go.RowKit Go.Ct
section
variable{L:List aP}{cs:List Int}{gen:Int}{pn pc:Option Addr}{cn cc:Nat}{w:World}
abbrev Nr(L:List aP)(cs:List Int)(gen:Int)(pn:Option Addr)(cn:Nat)(pc:Option Addr)(cc:Nat):Value:=.agg ⟨[.slice pn L.length cn,.slice pc cs.length cc,.int .i64 gen]⟩
structure StB(L:List aP)(cs:List Int):Prop where
 cs:∀c,bU cs c<=9223372036854775807
 bK:∀r,(aB L r).nd.bK<=9223372036854775807
 new:∀r,(aB L r).nd.new<=9223372036854775807
 main:∀r,(aB L r).nd.main<=9223372036854775807
 prev:∀r,(aB L r).nd.prev<=9223372036854775807
 status:∀r,(aB L r).nd.status<=9223372036854775807
 br:∀r,∀b∈(aB L r).xs,b<=9223372036854775807
end
end

end Go.Proofs.YtbajmaoegmbfgaaGreat
