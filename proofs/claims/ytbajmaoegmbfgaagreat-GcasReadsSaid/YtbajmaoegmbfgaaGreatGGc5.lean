/- gcas: Read, Swap. -/
import Derived.Test.YtbajmaoegmbfgaaGreatGGc3
import Derived.Test.YtbajmaoegmbfgaaGreatGWo1
import Derived.Test.YtbajmaoegmbfgaaGreatGLk3
import Derived.Test.YtbajmaoegmbfgaaGreatGGc0
import Derived.Test.YtbajmaoegmbfgaaGreatGVw1
import Derived.Test.YtbajmaoegmbfgaaGreatGAr8

set_option linter.unusedSimpArgs false
set_option linter.unusedVariables false
namespace Go.Proofs.YtbajmaoegmbfgaaGreat
section
open Go Go.RowKit Go.Ct
section
variable{D:List Nat}{A B:Fr}{a:AS}{b:Nat}{w:World}{f:FuncId}{cap:List Value}{t:gO}
theorem cx{K:Int->Tr}{i m:Int}{s:Mm}{bt bo bi:Nat}(ht:t.root<=9223372036854775807)(hK:Es b K s f cap B)(hi:i<=s.nodes.length)(hmm:m<=s.nodes.length):vQ b 131 [pt bo,pt bi,pt bt] [.int .i64 m] (bx bo (kW b t)::bx bi [iv i]::bx bt [fn f cap]::B) s (qL t i m K):=by
 intro a D A w em ok hm hA hB hw0
 subst em
 have hK2:=hK.more (B2:=(bx bo (kW b t)::bx bi [iv i]::bx bt [fn f cap]::B)) (λ x hx=>by simp[hx])
 refine enter Tryz.func131 Tryz.ntmps131 rfl rfl hw0 ?_
 simp only[bX]
 refine J0 ?_;refine aJ (λ x5=>?_);refine aH ?_;refine J0 ?_;refine aC (im bo (kW b t) 0 3 hB rfl rfl) rfl ?_;refine aC (qC bi [.int .i64 i] 0 hB rfl) rfl ?_;refine aA ?_;refine aC (qC bt [fn f cap] 0 hB rfl) rfl ?_;refine aD (It (λ w1 hw=>Js ht hK2 hi hmm ok hm hA hB hw)) (λ x10 h10=>?_);refine cP (iZ λ _=>bN rf cQ rf (dM _) eC rf kM) (λ _=>?_);refine aH ?_
 refine bC Tryz.results131 (λ w hw=>?_)
 exact⟨x10,rfl,h10,hw.rN⟩
theorem o6{K:Int->Tr}{i:Int}(ht:t.root<=9223372036854775807)(hK:Es b K a.mm f cap B)(hi:i<=a.mm.nodes.length)(ok:a.Ok)(hm:a.mm.Small)(hA:∀f∈aM a.L,f∈A)(hB:∀x∈B,x∈A)(hs:SF w D [(b,fS a)] A [] (gI a) w) :
  Calls Tryz.prog 88 #[.agg ⟨kW b t⟩,.int .i64 i,fn f cap] w (Dx b (λ c' s' B'=>kV b (kL t i K) a.mm c' s' B') a B D w):=by
 have ni:=Cr ok i
 refine enter Tryz.func88 Tryz.ntmps88 rfl rfl hs ?_
 simp only[bX]
 refine J0 ?_;refine bI (λ x3=>?_);refine bI (λ x4=>?_);refine bI (λ x5=>?_);refine aJ (λ x6=>?_);refine aH ?_;refine gY ?_;refine bP ?_;refine aD (I4 i ok hm hA hi) (λ x10 h10=>?_);refine cA ?_;(refine aC (dC (by(repeat (first|exact dB _|(apply cI;focus ((conv=>{lhs;whnf});try exact rfl))));done)) rfl ?_);refine aT (cV (hc:=λ w1 hw=>wY _ _ _ w1)) (λ x13=>?_);refine cP (iZ λ _=>bN rf cQ rf (dM _) eC rf kM) (λ _=>?_);refine aH ?_
 refine bC Tryz.results88 (λ w hw=>?_)
 refine⟨(sQ (aB (cY a.L) i).nd.main _ _,[bx x3 (kW b t),bx x4 [iv i],bx x5 [fn f cap]],a),rfl,⟨⟨hi,?_⟩,ok,(AS.jM.refl a).more (λ _ h=>(List.not_mem_nil h).elim)⟩,?_⟩
 ·rw[lY]
  exact⟨rfl,qQ hm ni.main,_,_,rfl,by kernel_rfl,λ m s1 l hmm=>cx (bo:=x3) (bi:=x4) (bt:=x5) ht (hK.le l) (by have:=l.len;omega) hmm⟩
 ·exact(((hw.dF (.tail .head)).dF (.tail .head)).dF (.tail .head)).rI
theorem gi{K:Bool->Tr}{m n:Int}{s:Mm}{bt bn:Nat}(hK:Xk b K s f cap B):vQ b 122 [pt bt,pt bn] [.int .i64 m] (bx bt [fn f cap]::bx bn [iv n]::B) s (K (m==n)):=by
 intro a D A w em ok hm hA hB hw0
 subst em
 have hK2:=hK.more (B2:=(bx bt [fn f cap]::bx bn [iv n]::B)) (λ x hx=>by simp[hx])
 refine enter Tryz.func122 Tryz.ntmps122 rfl rfl hw0 ?_
 simp only[bX]
 refine J0 ?_;refine aJ (λ x4=>?_);refine aH ?_;refine J0 ?_;refine aC (qC bt [fn f cap] 0 hB rfl) rfl ?_;refine aA ?_;refine aC (qC bn [.int .i64 n] 0 hB rfl) rfl ?_;refine mC ?_;refine aD (So hK2.1 (hK2.2 (m==n) a.mm (Mm.Le.refl _)) ok hm hA hB) (λ x9 h9=>?_);refine cP (iZ λ _=>bN rf cQ rf (dM _) eC rf kM) (λ _=>?_);refine aH ?_
 refine bC Tryz.results122 (λ w hw=>?_)
 exact⟨x9,rfl,h9,hw.rN⟩
theorem iz{K:Bool->Tr}{i n:Int}{s:Mm}{bt bo bi bn:Nat}(ht:t.root<=9223372036854775807)(hK:Xk b K s f cap B)(hi:i<=s.nodes.length)(hnn:n<=s.nodes.length)(o:Bool):vQ b 120 [pt bt,pt bo,pt bi,pt bn] [.bool o] (bx bt [fn f cap]::bx bo (kW b t)::bx bi [iv i]::bx bn [iv n]::B) s (if o=true then qL t i n λ m=>K (m==n) else K false):=by
 intro a D A w em ok hm hA hB hw0
 subst em
 have hK2:=hK.more (B2:=(bx bt [fn f cap]::bx bo (kW b t)::bx bi [iv i]::bx bn [iv n]::B)) (λ x hx=>by simp[hx])
 have hT:Es b (λ m=>K (m==n)) a.mm 122 [.pointer (some ⟨bt,0,none⟩),.pointer (some ⟨bn,0,none⟩)] (bx bt [fn f cap]::bx bo (kW b t)::bx bi [iv i]::bx bn [iv n]::B):=⟨by kernel_rfl,λ m s1 l hv=>(gi (bt:=bt) (bn:=bn) (hK.le l)).mr (λ y hy=>by
  simp only[List.mem_cons] at hy ⊢
  rcases hy with h|h|h<;>simp[h])⟩
 refine enter Tryz.func120 Tryz.ntmps120 rfl rfl hw0 ?_
 simp only[bX]
 refine J0 ?_;refine aJ (λ x6=>?_);refine aH ?_;refine kA ?_;refine nR ?_
 refine bB (λ c8=>?_) (λ c8=>?_)
 ·refine J0 ?_;refine aC (qC bt [fn f cap] 0 hB rfl) rfl ?_;refine aD (So hK2.1 (hK2.2 false a.mm (Mm.Le.refl _)) ok hm hA hB) (λ x10 h10=>?_);refine cP (iZ λ _=>bN rf cQ rf (dM _) eC rf kM) (λ _=>?_);refine aH ?_
  refine bC Tryz.results120 (λ w hw=>?_)
  refine⟨x10,rfl,⟨?_,h10.2⟩,hw.rN⟩
  rw[if_neg (by rw[show o=false by simpa using c8];decide)]
  exact h10.1
 ·refine aY ?_;refine J0 ?_;refine aC (im bo (kW b t) 0 3 hB rfl rfl) rfl ?_;refine aC (qC bi [.int .i64 i] 0 hB rfl) rfl ?_;refine aC (qC bn [.int .i64 n] 0 hB rfl) rfl ?_;(refine aC (dC (by(repeat (first|exact dB _|(apply cI;focus ((conv=>{lhs;whnf});try exact rfl))));done)) rfl ?_);refine aD (It (λ w1 hw=>Js ht hT hi hnn ok hm hA hB hw)) (λ x15 h15=>?_);refine cP (iZ λ _=>bN rf cQ rf (dM _) eC rf kM) (λ _=>?_);refine aH ?_
  refine bC Tryz.results120 (λ w hw=>?_)
  refine⟨x15,rfl,⟨?_,h15.2⟩,hw.rN⟩
  rw[if_pos (by simpa using c8)]
  exact h15.1
theorem qk{K:Bool->Tr}{i bK n:Int}(ht:t.root<=9223372036854775807)(hK:Xk b K a.mm f cap B)(hi:i<=a.mm.nodes.length)(hnn:n<=a.mm.nodes.length)(ok:a.Ok)(hm:a.mm.Small)(hA:∀f∈aM a.L,f∈A)(hB:∀x∈B,x∈A)(hs:SF w D [(b,fS a)] A [] (gI a) w) :
  Calls Tryz.prog 75 #[.agg ⟨kW b t⟩,.int .i64 i,.int .i64 bK,.int .i64 n,fn f cap] w (Dx b (λ c' s' B'=>kV b (jO t i bK n K) a.mm c' s' B') a B D w):=by
 have ni:=Cr ok i
 refine enter Tryz.func75 Tryz.ntmps75 rfl rfl hs ?_
 simp only[bX]
 refine J0 ?_;refine bI (λ x5=>?_);refine bI (λ x6=>?_);refine bI (λ x8=>?_);refine bI (λ x9=>?_);refine aJ (λ x10=>?_);refine Q8 ?_;refine dK [(0,[]),(1,[]),(2,[]),(5,[]),(6,[]),(7,[]),(3,[6]),(4,[]),(8,[]),(9,[])] ?_;refine kX ?_;refine bG ?_;refine aN ?_;refine bG ?_;(refine bZ (i:=7) (hq:=(dC (by(repeat (first|exact dB _|(apply cI;focus ((conv=>{lhs;whnf});try exact rfl))));done))) (h:=?_));refine aZ (i:=3) (hq:=(I4 i ok hm hA hi)) (h:=λ x14 h14=>?_);refine oV ?_;refine cH (i:=8) (hq:=(cV (hc:=λ w1 hw=>zL _ _ _ _ _ w1))) (h:=λ x19=>?_);refine kB (i:=9) (hq:=(iZ λ _=>bN rf cQ rf (dM _) eC rf kM)) (h:=λ _=>?_);refine dY ?_
 refine bC Tryz.results75 (λ w hw=>?_)
 refine⟨(yD (aB (cY a.L) i).nd.main bK n _ _,[bx x5 (kW b t),bx x6 [iv i],bx x8 [iv n],bx x9 [fn f cap]],a),rfl,⟨⟨hi,?_⟩,ok,(AS.jM.refl a).more (λ _ h=>(List.not_mem_nil h).elim)⟩,?_⟩
 ·rw[lY]
  refine⟨rfl,qQ hm ni.main,hnn,_,_,rfl,by kernel_rfl,λ o s1 l=>(iz (bt:=x9) (bo:=x5) (bi:=x6) (bn:=x8) ht (hK.le l) (by have:=l.len;omega) (by have:=l.len;omega) o).mr (λ y hy=>?_)⟩
  simp only[List.mem_cons,List.mem_append,List.not_mem_nil,or_false] at hy ⊢
  rcases hy with h|h|h|h|h<;>simp[h]
 ·exact((((hw.dF (.tail .head)).dF (.tail .head)).dF (.tail .head)).dF (.tail .head)).rI
end
end

/- root: decide. -/
end Go.Proofs.YtbajmaoegmbfgaaGreat
namespace Go.Ct
section
open Go Go.RowKit
theorem bE.pre{P:Program}{S:List (Nat×Value)}{G G2:World->Prop}{o:Oper}{X:Type}{V:X->Value}{G':X->World->Prop}(h:∀w,G w->G2 w)(hl:bE P S G2 o X V G'):bE P S G o X V G':=⟨λ w hw=>hl.run w (h w hw)⟩
end
end Go.Ct
namespace Go.Proofs.YtbajmaoegmbfgaaGreat
section
open Go Go.RowKit Go.Ct
section
variable{D:List Nat}{A B:Fr}{a:AS}{b:Nat}{w:World}{f:FuncId}{cap:List Value}{t:gO}
end
end

/- gcas, root: the tasks. -/
section
open Go Go.RowKit Go.Ct
theorem oJ.app{b:Nat}{p:Tr×Mm}{a:AS}{B B1 F:Fr}{c:Cd}{a':AS}(h:oJ b p a (B1++B) (c,F,a')):oJ b p a B (c,F++B1,a'):=by
 obtain⟨⟨h1,h2⟩,h3,h4⟩:=h
 refine⟨⟨?_,h2⟩,h3,h4.more λ f hf=>List.mem_append_left _ hf⟩
 simp only at h1 ⊢
 rw[List.append_assoc]
 exact h1
section
variable{D:List Nat}{A B:Fr}{a:AS}{b:Nat}{w:World}{f:FuncId}{cap:List Value}{t:gO}
theorem Jl{t:Tr}{i m:Nat}(ht:bR t i m)(h:Th0 b t a.mm f cap B)(ok:a.Ok)(hm:a.mm.Small)(hA:∀f∈aM a.L,f∈A)(hB:∀x∈B,x∈A)(hs:SF w D [(b,fS a)] A [] (gI a) w) :
  Calls Tryz.prog 73 #[.iface 42 (.pointer (some ⟨b,0,none⟩)),.func (.func f) #[] ⟨cap⟩] w λ e w'=>∃x:Nat×Cd×Fr×AS,e=.returned (.pointer (some ⟨x.1,0,none⟩))/\(oJ b (Ct.iR t a.mm) a B x.2/\eF (Ct.iR t a.mm).1=true)/\SF w D ([(b,fS x.2.2.2)]++[(x.1,tO b x.2.1 0)]) [] x.2.2.1 (gI x.2.2.2++[]) w' :=
 (aq ht h ok hm hA hB hs).mono λ _ _ ⟨x,e,h,hw⟩=>⟨x,e,h,by rw[List.append_nil];exact hw.perm (List.Perm.swap _ _ _) (List.Perm.refl _)⟩
theorem vz{s:Mm}(v:Int):zG b 89 [] [.int .i64 v] B s (λ c' s' B'=>kV b (.done (lO v false)) s c' s' B'):=by
 intro a D A w em ok hm hA hB hw0
 subst em
 refine enter Tryz.func89 Tryz.ntmps89 rfl rfl hw0 ?_
 simp only[bX]
 refine J0 ?_;refine aJ (λ x2=>?_);refine aH ?_;refine J2 ?_;refine bJ ?_;refine aT (cV (hc:=λ w1 hw=>T9 (lO v false) w1)) (λ x5=>?_);refine J5 ?_
 refine bC Tryz.results89 (λ w hw=>?_)
 exact⟨(Cm (lO v false),[],a),rfl,⟨⟨rfl,rfl⟩,ok,AS.jM.refl a⟩,hw.rI⟩
theorem zk{s:Mm}(v:Bool):zG b 76 [] [.bool v] B s (λ c' s' B'=>kV b (.done (lO 0 v)) s c' s' B'):=by
 intro a D A w em ok hm hA hB hw0
 subst em
 refine enter Tryz.func76 Tryz.ntmps76 rfl rfl hw0 ?_
 simp only[bX]
 refine J0 ?_;refine aJ (λ x2=>?_);refine aH ?_;refine J2 ?_;refine bJ ?_;refine aT (cV (hc:=λ w1 hw=>T9 (lO 0 v) w1)) (λ x5=>?_);refine J5 ?_
 refine bC Tryz.results76 (λ w hw=>?_)
 exact⟨(Cm (lO 0 v),[],a),rfl,⟨⟨rfl,rfl⟩,ok,AS.jM.refl a⟩,hw.rI⟩
theorem z0{i:Int}{s:Mm}{bo bi:Nat}(ht:t.root<=9223372036854775807)(hi:i<=s.nodes.length):vQ b 87 [pt bo,pt bi] [] (bx bo (kW b t)::bx bi [iv i]::B) s (kL t i λ r=>.done (lO r false)):=by
 intro a D A w em ok hm hA hB hw0
 subst em
 have hT:Es b (λ r=>.done (lO r false)) a.mm 89 [] (bx bo (kW b t)::bx bi [iv i]::B):=⟨by kernel_rfl,λ v s1 l hv=>vz v⟩
 refine enter Tryz.func87 Tryz.ntmps87 rfl rfl hw0 ?_
 simp only[bX]
 refine J0 ?_;refine aJ (λ x2=>?_);refine aH ?_;refine J0 ?_;refine aC (im bo (kW b t) 0 3 hB rfl rfl) rfl ?_;refine aC (qC bi [.int .i64 i] 0 hB rfl) rfl ?_;refine aD (It (λ w1 hw=>o6 ht hT hi ok hm hA hB hw)) (λ x5 h5=>?_);refine cP (iZ λ _=>bN rf cQ rf (dM _) eC rf kM) (λ _=>?_);refine aH ?_
 refine bC Tryz.results87 (λ w hw=>?_)
 exact⟨x5,rfl,h5,hw.rN⟩
theorem xu{i bK n:Int}{s:Mm}{bo bi bl bn:Nat}(ht:t.root<=9223372036854775807)(hi:i<=s.nodes.length)(hnn:n<=s.nodes.length):vQ b 74 [pt bo,pt bi,pt bl,pt bn] [] (bx bo (kW b t)::bx bi [iv i]::bx bl [iv bK]::bx bn [iv n]::B) s (jO t i bK n λ ok=>.done (lO 0 ok)):=by
 intro a D A w em ok hm hA hB hw0
 subst em
 have hT:Xk b (λ ok=>.done (lO 0 ok)) a.mm 76 [] (bx bo (kW b t)::bx bi [iv i]::bx bl [iv bK]::bx bn [iv n]::B):=⟨by kernel_rfl,λ v s1 l=>zk v⟩
 refine enter Tryz.func74 Tryz.ntmps74 rfl rfl hw0 ?_
 simp only[bX]
 refine J0 ?_;refine aJ (λ x4=>?_);refine aH ?_;refine J0 ?_;refine aC (im bo (kW b t) 0 3 hB rfl rfl) rfl ?_;refine aC (qC bi [.int .i64 i] 0 hB rfl) rfl ?_;refine aC (qC bl [.int .i64 bK] 0 hB rfl) rfl ?_;refine aC (qC bn [.int .i64 n] 0 hB rfl) rfl ?_;refine aD (It (λ w1 hw=>qk ht hT hi hnn ok hm hA hB hw)) (λ x9 h9=>?_);refine cP (iZ λ _=>bN rf cQ rf (dM _) eC rf kM) (λ _=>?_);refine aH ?_
 refine bC Tryz.results74 (λ w hw=>?_)
 exact⟨x9,rfl,h9,hw.rN⟩
theorem Zr{i:Int}(ht:t.root<=9223372036854775807)(hi:i<=a.mm.nodes.length){n m:Nat}(hT:bR (kL t i λ r=>.done (lO r false)) n m)(ok:a.Ok)(hm:a.mm.Small)(hA:∀f∈aM a.L,f∈A)(hB:∀x∈B,x∈A)(hs:SF w D [(b,fS a)] A [] (gI a) w) :
  Calls Tryz.prog 38 #[.iface 42 (.pointer (some ⟨b,0,none⟩)),.agg ⟨[.int .i64 t.root,.bool t.ro]⟩,.int .i64 i] w λ e w'=>∃x:Nat×Cd×Fr×AS,e=.returned (.pointer (some ⟨x.1,0,none⟩))/\(oJ b (Ct.iR (kL t i λ r=>.done (lO r false)) a.mm) a B x.2/\eF (Ct.iR (kL t i λ r=>.done (lO r false)) a.mm).1=true)/\SF w D [(x.1,tO b x.2.1 0),(b,fS x.2.2.2)] [] x.2.2.1 (gI x.2.2.2) w':=by
 refine enter Tryz.func38 Tryz.ntmps38 rfl rfl hs ?_
 simp only[bX]
 refine J0 ?_;refine bI (λ x4=>?_);refine bI (λ x5=>?_);refine J1 ?_;refine J2 ?_;refine bP ?_;refine bJ ?_;refine aJ (λ x7=>?_);refine J5 ?_;refine J2 ?_;(refine aC (dC (by(repeat (first|exact dB _|(apply cI;focus ((conv=>{lhs;whnf});try exact rfl))));done)) rfl ?_);(refine aT (bE.pre (λ w h=>(show SF _ _ [_,(b,fS a)] _ ([bx x7 (kW b t),bx x5 [iv i]]:Fr) _ w from(h.dF (.tail .head)).dF .head)) (vd (V:=λ x:Nat×Cd×Fr×AS=>.pointer (some ⟨x.1,0,none⟩)) (hs:=[(b,fS a)]) (os:=gI a) (hs':=λ x=>[(b,fS x.2.2.2)]) (Hc:=λ x=>[(x.1,tO b x.2.1 0)]) (os':=λ x=>gI x.2.2.2) (Oc:=λ _=>[]) (Fc:=λ x=>x.2.2.1) (A0:=[bx x7 (kW b t),bx x5 [iv i]]++A) (hA:=bA.jk) (hc:=λ w1 hw=>Jl (B:=[bx x7 (kW b t),bx x5 [iv i]]++B) hT ⟨by kernel_rfl,λ s1 l=>z0 ht (by have:=l.len;omega)⟩ ok hm (λ f hf=>List.mem_append_right _ (hA f hf)) (E9 hB) hw))) (λ x13=>?_);try (refine eW (λ h13=>?_)));refine J1 ?_
 refine aS Tryz.results38 (λ w hw=>?_)
 exact⟨(x13.1,x13.2.1,x13.2.2.1++[bx x7 (kW b t),bx x5 [iv i]],x13.2.2.2),rfl,⟨oJ.app h13.1,h13.2⟩,hw.ret (by repeat (first|exact List.Sublist.refl _|apply List.Sublist.cons_cons|apply List.Sublist.cons)) (aX.hJ λ f hf=>hf) (by repeat (exact List.Sublist.refl _))⟩
theorem cu{i bK nw:Int}(ht:t.root<=9223372036854775807)(hi:i<=a.mm.nodes.length)(hnn:nw<=a.mm.nodes.length){n m:Nat}(hT:bR (jO t i bK nw λ ok=>.done (lO 0 ok)) n m)(ok:a.Ok)(hm:a.mm.Small)(hA:∀f∈aM a.L,f∈A)(hB:∀x∈B,x∈A)(hs:SF w D [(b,fS a)] A [] (gI a) w) :
  Calls Tryz.prog 28 #[.iface 42 (.pointer (some ⟨b,0,none⟩)),.agg ⟨[.int .i64 t.root,.bool t.ro]⟩,.int .i64 i,.int .i64 bK,.int .i64 nw] w λ e w'=>∃x:Nat×Cd×Fr×AS,e=.returned (.pointer (some ⟨x.1,0,none⟩))/\(oJ b (Ct.iR (jO t i bK nw λ ok=>.done (lO 0 ok)) a.mm) a B x.2/\eF (Ct.iR (jO t i bK nw λ ok=>.done (lO 0 ok)) a.mm).1=true)/\SF w D [(x.1,tO b x.2.1 0),(b,fS x.2.2.2)] [] x.2.2.1 (gI x.2.2.2) w':=by
 refine enter Tryz.func28 Tryz.ntmps28 rfl rfl hs ?_
 simp only[bX]
 refine J0 ?_;refine bI (λ x6=>?_);refine bI (λ x7=>?_);refine bI (λ x8=>?_);refine bI (λ x9=>?_);refine J1 ?_;refine J2 ?_;refine bP ?_;refine bJ ?_;refine aJ (λ x11=>?_);refine J5 ?_;refine J2 ?_;(refine aC (dC (by(repeat (first|exact dB _|(apply cI;focus ((conv=>{lhs;whnf});try exact rfl))));done)) rfl ?_);(refine aT (bE.pre (λ w h=>(show SF _ _ [_,(b,fS a)] _ ([bx x11 (kW b t),bx x7 [iv i],bx x8 [iv bK],bx x9 [iv nw]]:Fr) _ w from(((h.dF (.tail .head)).dF (.tail .head)).dF (.tail .head)).dF .head)) (vd (V:=λ x:Nat×Cd×Fr×AS=>.pointer (some ⟨x.1,0,none⟩)) (hs:=[(b,fS a)]) (os:=gI a) (hs':=λ x=>[(b,fS x.2.2.2)]) (Hc:=λ x=>[(x.1,tO b x.2.1 0)]) (os':=λ x=>gI x.2.2.2) (Oc:=λ _=>[]) (Fc:=λ x=>x.2.2.1) (A0:=[bx x11 (kW b t),bx x7 [iv i],bx x8 [iv bK],bx x9 [iv nw]]++A) (hA:=bA.jk) (hc:=λ w1 hw=>Jl (B:=[bx x11 (kW b t),bx x7 [iv i],bx x8 [iv bK],bx x9 [iv nw]]++B) hT ⟨by kernel_rfl,λ s1 l=>xu ht (by have:=l.len;omega) (by have:=l.len;omega)⟩ ok hm (λ f hf=>List.mem_append_right _ (hA f hf)) (E9 hB) hw))) (λ x17=>?_);try (refine eW (λ h17=>?_)));refine J1 ?_
 refine aS Tryz.results28 (λ w hw=>?_)
 exact⟨(x17.1,x17.2.1,x17.2.2.1++[bx x11 (kW b t),bx x7 [iv i],bx x8 [iv bK],bx x9 [iv nw]],x17.2.2.2),rfl,⟨oJ.app h17.1,h17.2⟩,hw.ret (by repeat (first|exact List.Sublist.refl _|apply List.Sublist.cons_cons|apply List.Sublist.cons)) (aX.hJ λ f hf=>hf) (by repeat (exact List.Sublist.refl _))⟩
end
end

/- root: Help. -/
section
open Go Go.RowKit Go.Ct
section
variable{D:List Nat}{A B:Fr}{a:AS}{b:Nat}{w:World}{f:FuncId}{cap:List Value}{t:gO}
end
end

/- root: Replace. -/
section
open Go Go.RowKit Go.Ct
section
variable{D:List Nat}{A B:Fr}{a:AS}{b:Nat}{w:World}{f:FuncId}{cap:List Value}{t:gO}
end
end

/- root: the tasks. -/
section
open Go Go.RowKit Go.Ct
section
variable{D:List Nat}{A B:Fr}{a:AS}{b:Nat}{w:World}{f:FuncId}{cap:List Value}{t:gO}
end
end

/- The laws of root: a world, an arena, a trie; the sanity check. -/
end Go.Proofs.YtbajmaoegmbfgaaGreat
namespace Go.Ct
section
open Go Go.RowKit
end
end Go.Ct
namespace Go.Proofs.YtbajmaoegmbfgaaGreat
section
open Go Go.RowKit Go.Ct
structure TQ where
 bw:Nat
 bm:Nat
 m:Nat
 W:Wd
 ba:Nat
 a:AS
 j:Nat
 tp:Nat
 pos:Nat
structure R8(q:TQ):Prop where
 m:q.m<18446744073709551616
 W:Ql q.m 2415922570 1048594 18 q.W
 j:q.j<q.W.ts.length
 mm:q.a.mm=q.W.z.mm
 a:q.a.Ok
abbrev TQ.t(q:TQ):gO:=q.W.ts.getD q.j ⟨0,false⟩
theorem R8.root{q:TQ}(h:R8 q):q.t.root<=9223372036854775807:=h.W.root (by decide) (Aj h.j)
theorem R8.sm{q:TQ}(h:R8 q):q.a.mm.Small:=by
 obtain⟨s1,s2,s3⟩:=h.W.sz
 rw[h.mm]
 refine⟨?_,?_⟩
 ·show(q.W.z.L.map aP.c).length<=_
  rw[List.length_map];omega
 ·show q.W.z.cs.length<=_;omega
theorem tq{z:XS}(h:z.Ok):z.a0.Ok:=⟨h.fit,h.nd,h.cs,h.got,h.made,h.two,h.lL,h.lc,h.lg,h.la,h.lm,h.lk,h.le,h.fr,h.ys,h.gen0,h.ms,h.m1⟩
theorem R8.lok{q:TQ}(h:R8 q):Iy q.ba 2415922570 0 ⟨q.a,q.W.z.a0,[],[]⟩:=.none (tq h.W.z) h.a h.mm h.W.sz
abbrev tqO(q:TQ):List Ow:=gI q.a++zC q.W.z
end

/- The laws of root: the sanity check. -/
section
open Go Go.RowKit Go.Ct
theorem Y3(x y:AX):gR (L4 x y) [0,3,4] 1 :=
 tF (m:=0) (B:=8) (C:=0) (E:=0) (W:=⟨XS.new (L4 x y) [0,3,4] 1 0 none 0 none 0,[⟨3,false⟩],none,0,[],none,0⟩) ⟨Ut _ _ _ _ _ _ _,⟨by show 4<=8;decide,by show 3<=8;decide,by show(1:Int)<=((8:Nat):Int);decide⟩,(λ e he=>nomatch he),by show 0<1;decide,rfl,by show 1<=5;decide,Nat.le_refl _,.new⟩
section
variable{D:List Nat}{A B:Fr}{a0 a:AS}{b bt n m most:Nat}{w:World}{c:Cd}{F:Fr}{p:Tr×Mm}
theorem Z1(hp:oJ b p a0 B (c,F,a))(ha:eF p.1=true)(ht:bR p.1 m 64)(hmm:most<=m)(hm:p.2.nodes.length+64*most<=137438953472/\p.2.cs.length+64*most<=137438953472)(hn:n+most<1000000000)(hA:∀f∈aM a.L,f∈A)(hB:∀x∈F++B,x∈A)(hs:SF w D [(bt,tO b c n),(b,fS a)] A [] (gI a) w) :
  Calls Tryz.prog 30 #[.pointer (some ⟨bt,0,none⟩),.int .i64 ((most:Nat):Int)] w λ e w'=>∃y:Cd×Fr×AS,e=.returned (.int .i64 ((Ab p most:Nat):Int))/\TkI b (uR p most) a (F++B) y/\SF w D [(bt,tO b y.1 (n+Ab p most)),(b,fS y.2.2)] [] y.2.1 (gI y.2.2) w':=by
 obtain⟨⟨h1,h2⟩,h3,h4⟩:=hp
 simp only at h1 h2 h3
 have e:(p.1,a.mm)=p:=by rw[h2]
 have:=iu (b:=b) (bt:=bt) (n:=n) (D:=D) (A:=A) (B:=F++B) (w:=w) (most:=most) ht hmm ha (a:=a) (c:=c) (by rw[h2];exact h1) h3 (by rw[h2];exact hm) hn hA hB hs
 rw[e] at this
 exact this
end
end

/- The laws of gcas: the sanity check. -/
section
open Go Go.RowKit Go.Ct
abbrev mw:Nd:={Nd.zero with kind:=3}
def Jf:Mm:=mm0.push (mw.c [] []) 3
def Qd:Tr:=jO ⟨3,false⟩ 4 3 5 λ ok=>.done (lO 0 ok)
theorem Ao:bR Qd 20 64:=by
 have h:Qd=kN ⟨2,⟨3,false⟩,4,3,5,0,0,0,⟨#[]⟩,0,0,0,false⟩ 0 21:=by
  unfold Qd kN
  rfl
 rw[h]
 exact Kd (by decide)
theorem y6:uR (Ct.iR Qd Jf) 9=(.done (lO 0 true),(uR (Ct.iR Qd Jf) 9).2)/\Ab (Ct.iR Qd Jf) 9=5/\bU (uR (Ct.iR Qd Jf) 9).2.cs 2=5/\(cG (uR (Ct.iR Qd Jf) 9).2.nodes 4).main=2/\(uR (Ct.iR Qd Jf) 9).2.nodes.length=5:=⟨rfl,rfl,rfl,rfl,rfl⟩
theorem yq:(Ct.iR Qd Jf).2.nodes.length=5/\(Ct.iR Qd Jf).2.cs.length=4:=⟨rfl,rfl⟩
theorem nf{D:List Nat}{A B F:Fr}{a0 a:AS}{b bt:Nat}{c:Cd}{w:World}(hp:oJ b (Ct.iR Qd Jf) a0 B (c,F,a))(hA:∀f∈aM a.L,f∈A)(hB:∀x∈F++B,x∈A)(hs:SF w D [(bt,tO b c 0),(b,fS a)] A [] (gI a) w) :
  Calls Tryz.prog 30 #[.pointer (some ⟨bt,0,none⟩),.int .i64 9] w λ e w'=>∃y:Fr×AS,e=.returned (.int .i64 5)/\(bU y.2.cs 2=5/\(aB (cY y.2.L) 4).nd.main=2/\y.2.Ok/\y.2.mm.Small/\a.jM y.2 y.1/\(4:Int)<=y.2.mm.nodes.length)/\SF w D [(bt,tO b (Cm (lO 0 true)) 5),(b,fS y.2)] [] y.1 (gI y.2) w':=by
 obtain⟨e1,e2,e3,e4,e5⟩:=y6
 obtain⟨g1,g2⟩:=yq
 refine(Z1 (n:=0) (m:=20) (most:=9) hp (nQ Jf Ao) (nV Jf Ao 64) (by decide) ⟨by omega,by omega⟩ (by decide) hA hB hs).mono λ e w' ⟨y,h1,h2,hw⟩=>?_
 have h3:=h2.rp
 rw[e1] at h3
 obtain⟨_,h4⟩:=h3
 have h5:y.2.2.cs=(uR (Ct.iR Qd Jf) 9).2.cs:=congrArg Mm.cs h2.mm
 have h7:(cY y.2.2.L).map aP.c=(uR (Ct.iR Qd Jf) 9).2.nodes:=congrArg Mm.nodes h2.mm
 obtain⟨_,_,_,h6⟩:=F6 (nV Jf Ao 64) (nQ Jf Ao) 9 (by decide) (s:=(Ct.iR Qd Jf).2)
 have h6':(uR (Ct.iR Qd Jf) 9).2.cs.length<=(Ct.iR Qd Jf).2.cs.length+64*9:=h6
 rw[e2,h4] at hw
 refine⟨(y.2.1,y.2.2),by rw[h1,e2];rfl,⟨by show bU y.2.2.cs 2=5;rw[h5];exact e3,?_,h2.ok,?_,h2.gr,?_⟩,hw⟩
 ·rw[<- h7,<- Aq] at e4
  exact e4
 ·rw[h2.mm]
  exact⟨by rw[e5];decide,by omega⟩
 ·show(4:Int)<=y.2.2.mm.nodes.length
  rw[h2.mm,e5];decide
set_option maxRecDepth 100000 in
set_option maxHeartbeats 1000000 in
theorem Xg(w:World):Calls Tryz.prog 72 #[] w λ e w'=>∃q:Nat×AS,e=.returned (.tuple #[.pointer (some ⟨q.1,0,none⟩),.agg ⟨[.int .i64 3,.bool false]⟩,.int .i64 4,.int .i64 3,.int .i64 5])/\(q.2.mm=Jf/\q.2.Ok)/\SF w [] [(q.1,fS q.2)] [] (aM q.2.L) (gI q.2) w':=by
 refine enter Tryz.func72 Tryz.ntmps72 rfl rfl (SF.s0 w) ?_
 simp only[bX]
 refine J0 ?_;refine eG (λ _=>?_);refine aJ (λ x1=>?_);refine eG (λ _=>?_);refine J8 ?_;refine J0 ?_;refine aD (Oh (Fc:=λ _=>[]) (hc:=λ w1 hw=>bs w1)) (λ x6 h6=>?_);refine J1 ?_;refine J2 ?_;refine aD (cM (hc:=λ w hs=>P4 hs)) (λ x8 h8=>?_);refine J5 ?_;refine Ho ?_;refine aC (aQ (k:=3) rf cQ eC (by simp only[List.drop_zero,List.take_succ_cons,List.take_zero];exact rfl) rfl) rfl ?_;refine aD (Oh (V:=λ x:Nat×List aP×(Option Addr×Nat)×(Option Addr×Nat)=>.tuple #[.pointer (some ⟨x.1,0,none⟩),.int .i64 0]) (Hc:=λ x=>[(x.1,aO x.2.1 [0,3,4] 1 0 x.2.2.1.1 x.2.2.1.2 x.2.2.2.1 x.2.2.2.2)]) (Fc:=λ x=>aM x.2.1) (Oc:=λ x=>mW x.2.1 [0,3,4] x.2.2.1.1 x.2.2.1.2 x.2.2.2.1 x.2.2.2.2) (hc:=λ w1 hw=>Z3 (L:=L4 x8.1 x8.2.1) (cs:=[0,3,4]) (hw.zN (.inr (.inr (.inr ⟨_,.head _,rfl,rfl⟩))) (.inr (.inr (.inr ⟨_,.tail _ (.head _),rfl,rfl⟩))) (λ f hf=>.inl (dk f hf)) (Ut x8.1 x8.2.1 0 none 0 none 0).fit) (by show 4<=_;decide) (by decide) (hw.zj .head) (Y3 _ _))) (λ x14 h14=>?_)
 obtain⟨a0,ha0⟩:∃a:AS,a=⟨x14.2.1,[0,3,4],1,0,x14.2.2.1.1,x14.2.2.1.2,x14.2.2.2.1,x14.2.2.2.2⟩:=⟨_,rfl⟩
 have hmm:a0.mm=mm0:=by rw[ha0];show Mm.mk ((cY x14.2.1).map aP.c) [0,3,4] 1=mm0;rw[h14.1];rfl
 have hok:a0.Ok:=⟨by rw[ha0];exact h14.2,by rw[hmm];exact(Ut x8.1 x8.2.1 0 none 0 none 0).mo⟩
 have hsm:a0.mm.Small:=by rw[hmm];exact⟨by decide,by decide⟩
 have hoA:∀x:AX,(a0.al mw [] [] 3 x).Ok:=λ x=>hok.al x (by simp) (by simp) ⟨bH _,bH _,bH _,(λ r hr=>nomatch hr),bH _,bH _,bH _,⟨0,rfl,by decide⟩,⟨0,rfl,by decide⟩⟩ (by rw[hmm];decide)
 have hmA:∀x:AX,(a0.al mw [] [] 3 x).mm=Jf:=λ x=>by rw[Eu,hmm];rfl
 refine Ii ?_;refine iE ?_;refine J2 ?_;refine uK ?_
 refine bB (λ c18=>?_) (λ c18=>?_)
 ·cases c18
 ·refine jU ?_;refine dK [(0,[]),(1,[]),(2,[]),(3,[]),(4,[1]),(5,[1]),(6,[]),(7,[]),(8,[]),(9,[])] ?_;refine aN ?_;refine bG ?_;refine aN ?_;refine fU ?_;refine aZ (i:=4) (hq:=(cM (V:=λ _:AX=>.int .i64 5) (hs:=[(x14.1,fS a0)]) (os:=gI a0) (A0:=[(none,aG []),(none,cZ [])]) (hs':=λ x=>[(x14.1,fS (a0.al mw [] [] 3 x))]) (os':=λ x=>gI (a0.al mw [] [] 3 x)) (Fc:=λ x=>(oE mw [] [] a0.cs.length x).fr) (hH:=by rw[ha0];exact .cons .head .nil) (hO:=by rw[ha0];exact .cons .head (.cons .head .nil)) (hc:=λ w1 hw=>by have:=P9 (n:=mw) (xs:=[]) (ys:=[]) hok hsm 3 rfl rfl (by simp) (by simp) (λ f hf=>hf) hw;rw[hmm] at this;exact this))) (h:=λ x24 h24=>?_);refine iI (h:=λ _=>?_);refine lW (h:=λ _=>?_);refine iI (h:=λ _=>?_);refine Q7 ?_
  refine bC Tryz.results72 (λ w hw=>?_)
  have hw:=hw.eX (F':=aM (a0.al mw [] [] 3 x24).L) λ f hf=>((AS.jM.al a0 mw [] [] 3 x24).fam f hf).imp_right λ h=>h.elim (λ h=>List.mem_append_right _ (by rw[ha0] at h;exact List.mem_append_left _ h)) λ h=>List.mem_append_left _ h
  exact⟨(x14.1,a0.al mw [] [] 3 x24),rfl,⟨hmA x24,hoA x24⟩,hw.ret (by repeat (first|exact List.nil_sublist _|apply List.Sublist.cons_cons)) aX.all (by repeat (first|exact List.nil_sublist _|apply List.Sublist.cons_cons))⟩
set_option maxRecDepth 100000 in
set_option maxHeartbeats 1000000 in
theorem Xn(w:World):Calls Tryz.prog 27 #[] w λ e w'=>e=.returned (.bool true)/\St w [] [] w':=by
 refine enter Tryz.func27 Tryz.ntmps27 rfl rfl (SF.s0 w) ?_
 simp only[bX]
 refine cO ?_;refine J0 ?_;refine aD (Oh (V:=λ q:Nat×AS=>.tuple #[.pointer (some ⟨q.1,0,none⟩),.agg ⟨[.int .i64 3,.bool false]⟩,.int .i64 4,.int .i64 3,.int .i64 5]) (Hc:=λ q=>[(q.1,fS q.2)]) (Fc:=λ q=>aM q.2.L) (Oc:=λ q=>gI q.2) (hc:=λ w1 hw=>Xg w1)) (λ x8 h8=>?_)
 obtain⟨hmm,hok⟩:=h8
 refine Ii ?_;refine J54 ?_;refine wV ?_;refine aJ (λ x2=>?_);refine eG (λ _=>?_);refine iA (λ _=>?_);refine eG (λ _=>?_);refine J8 ?_;refine kA ?_;refine uK ?_
 refine bB (λ c15=>?_) (λ c15=>?_)
 ·try (contradiction)
 ·try (first|contradiction|(exfalso;omega))
  refine aY ?_;refine J2 ?_;refine aC (ug rf (λ w=>Jw _ w)) rfl ?_;refine bP ?_;refine oX ?_;refine aA ?_;refine aD (vd (V:=λ x:Nat×Cd×Fr×AS=>.pointer (some ⟨x.1,0,none⟩)) (hs:=[(x8.1,fS x8.2)]) (os:=gI x8.2) (hs':=λ x=>[(x8.1,fS x.2.2.2)]) (Hc:=λ x=>[(x.1,tO x8.1 x.2.1 0)]) (os':=λ x=>gI x.2.2.2) (Oc:=λ _=>[]) (Fc:=λ x=>x.2.2.1) (A0:=aM x8.2.L) (hA:=bA.of λ f hf=>.inr (.inr (.inl (by simpa using hf)))) (hc:=λ w1 hw=>by have:=Us (cu (t:=⟨3,false⟩) (i:=4) (bK:=3) (nw:=5) (B:=[]) (n:=20) (m:=64) (by decide) (by rw[hmm];decide) (by rw[hmm];decide) Ao hok (by rw[hmm];exact⟨by decide,by decide⟩) (λ f hf=>hf) (λ x hx=>nomatch hx) hw);rw[hmm] at this;exact this)) (λ x22 h22=>?_);refine J1 ?_;refine J2 ?_;refine mK ?_;refine aA ?_
  (refine aF ?_;refine aA ?_)
  ((refine aF ?_;refine aD (cM (V:=λ y:Fr×AS=>.int .i64 5) (hs:=[(x22.1,tO x8.1 x22.2.1 0),(x8.1,fS x22.2.2.2)]) (os:=gI x22.2.2.2) (hs':=λ y=>[(x22.1,tO x8.1 (Cm (lO 0 true)) 5),(x8.1,fS y.2)]) (os':=λ y=>gI y.2) (Fc:=λ y=>y.1) (A0:=aM x22.2.2.2.L++(x22.2.2.1++[])) (hA:=bA.of λ f hf=>(List.mem_append.1 hf).elim (λ h=>(h22.1.2.2.fam f h).imp_right λ h=>.inr (.inl (h.elim (λ h=>List.mem_append_right _ (by simpa using h)) λ h=>List.mem_append_left _ h))) λ h=>.inr (.inr (.inl (List.mem_append_left _ (by simpa using h))))) (hc:=λ w1 hw=>nf h22.1 (λ f hf=>List.mem_append_left _ hf) (λ f hf=>List.mem_append_right _ hf) hw)) (λ x27 h27=>?_)));refine vJ ?_;refine aA ?_
  (refine aF ?_;refine aA ?_)
  ((refine aF ?_;refine aT (cV (hc:=λ w1 hw=>zH (r:=lO 0 true) (d:=true) rfl (if_pos rfl) (hw.st.at cQ))) (λ x32=>?_)));((refine aF ?_;refine cA ?_));refine cE ?_;refine aA ?_
  (refine aF ?_;refine aA ?_)
  ((refine aF ?_;refine aA ?_));((refine aF ?_;refine aA ?_));((refine aF ?_;refine aD (vd (V:=λ q:Option Addr×Option Addr=>.agg ⟨((aB (cY x27.2.L) 4).at_ q.1 q.2).nd.cells⟩) (hs:=[(x8.1,fS x27.2)]) (os:=gI x27.2) (hs':=λ _=>[(x8.1,fS x27.2)]) (Hc:=λ _=>[]) (os':=λ _=>gI x27.2) (Oc:=λ q=>[⟨q.2,cZ (aB (cY x27.2.L) 4).ys,(aB (cY x27.2.L) 4).ys.length,164,2⟩,⟨q.1,aG (aB (cY x27.2.L) 4).xs,(aB (cY x27.2.L) 4).xs.length,37,1⟩]) (Fc:=λ _=>[]) (A0:=aM x27.2.L) (hA:=bA.of λ f hf=>(h27.2.2.2.2.1.fam f hf).elim .inl λ h=>h.elim (λ h=>(h22.1.2.2.fam f h).imp_right λ h=>.inr (.inl (List.mem_append_right _ (h.elim (λ h=>List.mem_append_right _ (by simpa using h)) λ h=>List.mem_append_left _ h)))) λ h=>.inr (.inr (.inl (List.mem_append_left _ h)))) (hc:=λ w1 hw=>Uf h27.2.2.1 h27.2.2.2.1 (λ f hf=>hf) 4 h27.2.2.2.2.2 hw)) (λ x39 h39=>?_)));((refine aF ?_;refine aC (Ml rf (by exact Mr rfl) (show _=some (Value.int .i64 2) by rw[<- h27.2.1];rfl)) rfl ?_));((refine aF ?_;refine aD (cM (V:=λ _:Unit=>.int .i64 5) (hs:=[(x8.1,fS x27.2)]) (os:=gI x27.2) (hs':=λ _=>[(x8.1,fS {x27.2 with acc:=up x27.2.acc})]) (os':=λ _=>gI x27.2) (Fc:=λ _=>[]) (hc:=λ w1 hw=>by rw[<- h27.1];exact Vd hw 2 (by decide) (Nat.le_trans (show x27.2.cs.length<=137438953472 from h27.2.2.2.1.2) (by decide)))) (λ x41 h41=>?_)));((refine aF ?_;refine aA ?_));refine vJ ?_;refine J1 ?_
  refine aS Tryz.results27 (λ w hw=>?_)
  exact⟨rfl,hw.done⟩
end

/- Views: the root of a trie, the main node of an I-node. -/
end Go.Proofs.YtbajmaoegmbfgaaGreat
namespace Go.Ct
section
open Go Go.RowKit
theorem oA.Lc{L:List aP}{cs:List Int}{pn pc:Option Addr}{w w0:World}{M:List Nat}{H:List (Nat×Obj)}{F:Fr}{O:List Ow}(h:oA w0 L cs pn pc)(hw:SF w0 M H ((pn,hZ L)::(pc,aG cs)::aM L) F O w):oA w L cs pn pc:=hw.zN (.inr (.inl (.head _))) (.inr (.inl (.tail _ (.head _)))) (λ f hf=>.inr (.inl (.tail _ (.tail _ hf)))) h.fit
theorem cX(L:List aP)(r:Int):cG (L.map aP.c) r=(aB L r).c:=(Aq L r).symm
end
end Go.Ct
namespace Go.Proofs.YtbajmaoegmbfgaaGreat
section
open Go Go.RowKit Go.Ct
section
variable{L:List aP}{cs:List Int}{gen:Int}{pn pc:Option Addr}{cn cc:Nat}{w:World}
abbrev Nh(L:List aP)(cs:List Int)(gen:Int)(pn:Option Addr)(cn:Nat)(pc:Option Addr)(cc:Nat):Value:=.agg ⟨[.slice pn L.length cn,.slice pc cs.length cc,.int .i64 gen]⟩
structure StB(L:List aP)(cs:List Int):Prop where
 cs:∀c,bU cs c<=9223372036854775807
 bK:∀r,(aB L r).nd.bK<=9223372036854775807
 new:∀r,(aB L r).nd.new<=9223372036854775807
 main:∀r,(aB L r).nd.main<=9223372036854775807
 prev:∀r,(aB L r).nd.prev<=9223372036854775807
 status:∀r,(aB L r).nd.status<=9223372036854775807
 br:∀r,∀b∈(aB L r).xs,b<=9223372036854775807
end
end

end Go.Proofs.YtbajmaoegmbfgaaGreat
