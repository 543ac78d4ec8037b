/- gcas: root. -/
import Derived.Test.YtbajmaoegmbfgaaGreatGGc0

set_option linter.unusedSimpArgs false
set_option linter.unusedVariables false
namespace Go.Proofs.YtbajmaoegmbfgaaGreat
section
open Go Go.RowKit Go.Ct
section
variable{D:List Nat}{A B:Fr}{a:AS}{b:Nat}{w:World}{f:FuncId}{cap:List Value}{t:fR}
theorem Zf{K:Int->Tr}{v x:Int}{s:Mm}{b1 b2 b3:Nat}(ht:t.root<=9223372036854775807)(hK:zS b K s f cap B)(hv:v<=s.nodes.length):oE b 206 [pt b1,pt b2,pt b3] [.int .i64 x] (bx b1 (iH b t)::bx b2 [iv v]::bx b3 [fn f cap]::B) s (mI t v x K):=by
 intro a D A w em ok hm hA hB hw0
 subst em
 have hK2:=hK.more (B2:=(bx b1 (iH b t)::bx b2 [iv v]::bx b3 [fn f cap]::B)) (λ x hx=>by simp[hx])
 refine enter Tryz.func206 Tryz.ntmps206 rfl rfl hw0 ?_
 simp only[bX]
 refine J0 ?_;refine aI (λ x5=>?_);refine aG ?_;refine J0 ?_;refine aB (Ot b1 (iH b t) 0 3 hB rfl rfl) rfl ?_;refine aB (mU b2 [.int .i64 v] 0 hB rfl) rfl ?_;refine aA ?_;refine aB (mU b3 [fn f cap] 0 hB rfl) rfl ?_;refine aC (Cm (λ w1 hw=>nL ht hK2 hv ok hm hA hB hw)) (λ x10 h10=>?_);refine bW (gK λ _=>bA rf cN rf (cK _) dI rf jB) (λ _=>?_);refine aG ?_
 refine bB Tryz.results206 (λ w hw=>?_)
 exact⟨x10,rfl,h10,hw.rN⟩
theorem gf{K:Int->Tr}{v:Int}{s:Mm}{b0 b1 b2 b3:Nat}{nd:Nd}(ht:t.root<=9223372036854775807)(hK:zS b K s f cap B)(hv:v<=s.nodes.length)(hd:nd.status<=9223372036854775807)(o:Bool):oE b 205 [pt b0,pt b1,pt b2,pt b3] [.bool o] (bx b0 (nd.cells:List Value)::bx b1 (iH b t)::bx b2 [iv v]::bx b3 [fn f cap]::B) s (.load nd.status λ s=>mI t v s K):=by
 intro a D A w em ok hm hA hB hw0
 subst em
 have hK2:=hK.more (B2:=(bx b0 (nd.cells:List Value)::bx b1 (iH b t)::bx b2 [iv v]::bx b3 [fn f cap]::B)) (λ x hx=>by simp[hx])
 refine enter Tryz.func205 Tryz.ntmps205 rfl rfl hw0 ?_
 simp only[bX]
 refine J0 ?_;refine aI (λ x6=>?_);refine aG ?_;refine J0 ?_;refine aE ?_;refine aB (mU b0 (nd.cells:List Value) 13 hB rfl) rfl ?_;(refine aB (bY (by(repeat (first|exact cE _|(apply bU;focus ((conv=>{lhs;whnf});try exact rfl))));done)) rfl ?_);refine aP (cV (hc:=λ w1 hw=>nD _ _ _ w1)) (λ x10=>?_);refine bW (gK λ _=>bA rf cN rf (cK _) dI rf jB) (λ _=>?_);refine aG ?_
 refine bB Tryz.results205 (λ w hw=>?_)
 exact⟨(mP nd.status _ _,[],a),rfl,⟨⟨rfl,hd,_,_,rfl,by kernel_rfl,λ x s1 l hx=>(Zf (b1:=b1) (b2:=b2) (b3:=b3) ht (hK.le l) (by have:=l.len;omega)).mr (λ y hy=>List.mem_cons_of_mem _ hy)⟩,ok,AS.iD.refl a⟩,hw.rI⟩
theorem gi{K:Int->Tr}{v x:Int}{s:Mm}{b0 b1 b2 b3:Nat}{nd:Nd}(ht:t.root<=9223372036854775807)(hK:zS b K s f cap B)(hv:v<=s.nodes.length)(hd:nd.status<=9223372036854775807)(hn:(dY s.nodes v).status=nd.status):oE b 204 [pt b1,pt b2,pt b3,pt b0] [.int .i64 x] (bx b1 (iH b t)::bx b2 [iv v]::bx b3 [fn f cap]::bx b0 (nd.cells:List Value)::B) s (if x=0 then .node v λ n=>.kI n.status 0 2 λ _=>.node v λ n=>.load n.status λ s=>mI t v s K else mI t v x K):=by
 intro a D A w em ok hm hA hB hw0
 subst em
 have hK2:=hK.more (B2:=(bx b1 (iH b t)::bx b2 [iv v]::bx b3 [fn f cap]::bx b0 (nd.cells:List Value)::B)) (λ x hx=>by simp[hx])
 refine enter Tryz.func204 Tryz.ntmps204 rfl rfl hw0 ?_
 simp only[bX]
 refine J0 ?_;refine aI (λ x6=>?_);refine aG ?_;refine kY ?_;refine kM ?_;refine aG ?_
 refine bC (λ c8=>?_) (λ c8=>?_)
 ·refine J0 ?_;refine aB (Ot b1 (iH b t) 0 3 hB rfl rfl) rfl ?_;refine aB (mU b2 [.int .i64 v] 0 hB rfl) rfl ?_;refine aA ?_;refine aB (mU b3 [fn f cap] 0 hB rfl) rfl ?_;refine aC (Cm (λ w1 hw=>nL ht hK2 hv ok hm hA hB hw)) (λ x13 h13=>?_);refine bW (gK λ _=>bA rf cN rf (cK _) dI rf jB) (λ _=>?_);refine aG ?_
  refine bB Tryz.results204 (λ w hw=>?_)
  refine⟨x13,rfl,⟨?_,h13.2⟩,hw.rN⟩
  rw[if_neg (by omega)]
  exact h13.1
 ·refine aX ?_;refine J0 ?_;refine aE ?_;refine aB (mU b0 (nd.cells:List Value) 13 hB rfl) rfl ?_;(refine aB (bY (by(repeat (first|exact cE _|(apply bU;focus ((conv=>{lhs;whnf});try exact rfl))));done)) rfl ?_);refine aP (cV (hc:=λ w1 hw=>sJ _ _ _ _ _ w1)) (λ x17=>?_);refine bW (gK λ _=>bA rf cN rf (cK _) dI rf jB) (λ _=>?_);refine aG ?_
  refine bB Tryz.results204 (λ w hw=>?_)
  refine⟨(tV nd.status 0 2 _ _,[],a),rfl,⟨?_,ok,AS.iD.refl a⟩,hw.rI⟩
  rw[if_pos (by omega)]
  refine⟨hv,?_⟩
  dsimp only
  rw[hn]
  refine⟨rfl,hd,by have:=ok.mo.two;omega,_,_,rfl,by kernel_rfl,λ o s1 l=>?_⟩
  have hlen:=l.len
  show yZ b _ _ _ _ s1 λ c' s' B'=>v<=s1.nodes.length/\kE b (.load (dY s1.nodes v).status λ s=>mI t v s K) s1 c' s' B'
  rw[l.nd hv,hn]
  exact(gf (b0:=b0) (b1:=b1) (b2:=b2) (b3:=b3) (nd:=nd) ht (hK.le l) (by omega) hd o).more (λ y hy=>by
  simp only[List.mem_cons,List.append_eq,List.nil_append] at hy ⊢
  rcases hy with h|h|h|h|h<;>simp[h]) λ c m C C2 hC h=>⟨by omega,h.more hC⟩
theorem cj{K:Int->Tr}{v:Int}{s:Mm}{b1 b3:Nat}(ht:t.root<=9223372036854775807)(hK:zS b K s f cap B)(hv:v<=s.nodes.length):oE b 203 [pt b1,pt b3] [.int .i64 v] (bx b1 (iH b t)::bx b3 [fn f cap]::B) s (.node v λ n=>if n.kind=2 then K v else .node v λ n=>.load n.status λ s=>if s=0 then .node v λ n=>.kI n.status 0 2 λ _=>.node v λ n=>.load n.status λ s=>mI t v s K else mI t v s K):=by
 intro a D A w em ok hm hA hB hw0
 subst em
 have hK2:=hK.more (B2:=(bx b1 (iH b t)::bx b3 [fn f cap]::B)) (λ x hx=>by simp[hx])
 have nv:=C5 ok v
 refine enter Tryz.func203 Tryz.ntmps203 rfl rfl hw0 ?_
 simp only[bX]
 refine J0 ?_;refine bL (λ x3=>?_);refine aI (λ x4=>?_);refine aG ?_;refine J0 ?_;refine aE ?_;refine aB (mU b1 (iH b t) 0 hB rfl) rfl ?_;refine bN ?_;refine aC (It v ok hm hA hv) (λ x9 h9=>?_);refine aI (λ x5=>?_);refine J5 ?_;refine D7 ?_;refine uB ?_
 refine bC (λ c12=>?_) (λ c12=>?_)
 ·refine J0 ?_;refine aB (mU b3 [fn f cap] 0 hB rfl) rfl ?_;refine bN ?_;refine aC (Kr hK2.1 (hK2.2 v a.mm (Mm.Le.refl _) hv) ok hm hA hB) (λ x15 h15=>?_);refine bW (gK λ _=>bA rf cN rf (cK _) dI rf jB) (λ _=>?_);refine aG ?_
  refine bB Tryz.results203 (λ w hw=>?_)
  refine⟨x15,rfl,⟨⟨hv,?_⟩,h15.2⟩,hw.rN⟩
  rw[iM]
  dsimp only
  rw[if_pos (by assumption)]
  exact h15.1
 ·refine aX ?_;refine gM ?_;(refine aB (bY (by(repeat (first|exact cE _|(apply bU;focus ((conv=>{lhs;whnf});try exact rfl))));done)) rfl ?_);refine aP (cV (hc:=λ w1 hw=>nD _ _ _ w1)) (λ x19=>?_);refine bW (gK λ _=>bA rf cN rf (cK _) dI rf jB) (λ _=>?_);refine aG ?_
  refine bB Tryz.results203 (λ w hw=>?_)
  refine⟨(mP (aD (cW a.L) v).nd.status _ _,[bx x5 (((aD (cW a.L) v).at_ x9.1 x9.2).nd.cells:List Value),bx x3 [iv v]],a),rfl,⟨⟨hv,?_⟩,ok,(AS.iD.refl a).more (λ _ h=>(List.not_mem_nil h).elim)⟩,?_⟩
  ·rw[iM]
   dsimp only
   rw[if_neg (by assumption)]
   refine⟨hv,?_⟩
   rw[iM]
   refine⟨rfl,lW hm nv.status,_,_,rfl,by kernel_rfl,λ x s1 l hx=>?_⟩
   have hlen:=l.len
   exact(gi (b0:=x5) (b1:=b1) (b2:=x3) (b3:=b3) (nd:=((aD (cW a.L) v).at_ x9.1 x9.2).nd) ht (hK.le l) (by omega) (lW hm nv.status) (by rw[l.nd hv,iM];rfl)).mr (λ y hy=>by
   simp only[List.mem_cons,List.append_eq,List.nil_append,List.mem_append,List.not_mem_nil,or_false] at hy ⊢
   rcases hy with h|h|h|h|h<;>simp[h])
  ·exact((hw.cP (.tail (.tail .head))).cP .head).rI
theorem q7{K:Int->Tr}(ht:t.root<=9223372036854775807)(hK:zS b K a.mm f cap B)(ok:a.Ok)(hm:a.mm.Small)(hA:∀f∈aK a.L,f∈A)(hB:∀x∈B,x∈A)(hs:SF w D [(b,dS a)] A [] (dZ a) w) :
  Calls Tryz.prog 167 #[.agg ⟨iH b t⟩,fn f cap] w (Ay b (λ c' s' B'=>kE b (Jb t K) a.mm c' s' B') a B D w):=by
 refine enter Tryz.func167 Tryz.ntmps167 rfl rfl hs ?_
 simp only[bX]
 refine J0 ?_;refine bL (λ x2=>?_);refine bL (λ x3=>?_);refine aI (λ x4=>?_);refine aG ?_;refine J0 ?_;refine aE ?_;refine J3 ?_;(refine aB (bY (by(repeat (first|exact cE _|(apply bU;focus ((conv=>{lhs;whnf});try exact rfl))));done)) rfl ?_);refine aP (cV (hc:=λ w1 hw=>nD _ _ _ w1)) (λ x9=>?_);refine bW (gK λ _=>bA rf cN rf (cK _) dI rf jB) (λ _=>?_);refine aG ?_
 refine bB Tryz.results167 (λ w hw=>?_)
 refine⟨(mP t.root _ _,[bx x2 (iH b t),bx x3 [fn f cap]],a),rfl,⟨⟨rfl,ht,_,_,rfl,by kernel_rfl,λ v s1 l hv=>cj (b1:=x2) (b3:=x3) ht (hK.le l) hv⟩,ok,(AS.iD.refl a).more (λ _ h=>(List.not_mem_nil h).elim)⟩,?_⟩
 exact((hw.cP (.tail .head)).cP (.tail .head)).rI
end
end

/- gcas: settle. -/
section
open Go Go.RowKit Go.Ct
theorem Vz{b:Nat}{i m p prev:Int}{c:Bool}{K:Int->Tr}{s s2:Mm}{cd:Cd}{B:Fr}(hmm:m<=s.nodes.length)(hn:(dY s.nodes m).prev=prev)(h:kE b (bz prev p c λ _=>jP i m K) s cd s2 B):kE b (qS i m p c K) s cd s2 B:=by
 subst hn
 unfold bz at h
 unfold qS
 split
 ·rename_i hc
  rw[if_pos hc] at h
  exact⟨hmm,h⟩
 ·rename_i hc
  rw[if_neg hc] at h
  exact⟨hmm,h⟩
section
variable{D:List Nat}{A B:Fr}{a:AS}{b:Nat}{w:World}{f:FuncId}{cap:List Value}{t:fR}
theorem mj{K:Int->Tr}{i m p:Int}{s:Mm}{bt bm bo bi:Nat}(hK:zS b K s f cap B)(hi:i<=s.nodes.length)(hmm:m<=s.nodes.length)(hp:p<=s.nodes.length):oE b 165 [pt bt,pt bm,pt bo,pt bi] [.int .i64 p] (bx bt [fn f cap]::bx bm [iv m]::bx bo (iH b t)::bx bi [iv i]::B) s (if p=0 then K m else P5 i m p K):=by
 intro a D A w em ok hm hA hB hw0
 subst em
 have hK2:=hK.more (B2:=(bx bt [fn f cap]::bx bm [iv m]::bx bo (iH b t)::bx bi [iv i]::B)) (λ x hx=>by simp[hx])
 refine enter Tryz.func165 Tryz.ntmps165 rfl rfl hw0 ?_
 simp only[bX]
 refine J0 ?_;refine aI (λ x6=>?_);refine aG ?_;refine kY ?_;refine uB ?_
 refine bC (λ c8=>?_) (λ c8=>?_)
 ·refine J0 ?_;refine aB (mU bt [fn f cap] 0 hB rfl) rfl ?_;refine aB (mU bm [.int .i64 m] 0 hB rfl) rfl ?_;refine aC (Kr hK2.1 (hK2.2 m a.mm (Mm.Le.refl _) hmm) ok hm hA hB) (λ x11 h11=>?_);refine bW (gK λ _=>bA rf cN rf (cK _) dI rf jB) (λ _=>?_);refine aG ?_
  refine bB Tryz.results165 (λ w hw=>?_)
  refine⟨x11,rfl,⟨?_,h11.2⟩,hw.rN⟩
  rw[if_pos (by omega)]
  exact h11.1
 ·refine aX ?_;refine J0 ?_;refine aB (Ot bo (iH b t) 0 3 hB rfl rfl) rfl ?_;refine aB (mU bi [.int .i64 i] 0 hB rfl) rfl ?_;refine aB (mU bm [.int .i64 m] 0 hB rfl) rfl ?_;refine aA ?_;refine aB (mU bt [fn f cap] 0 hB rfl) rfl ?_;refine aC (Cm (λ w1 hw=>Ve hK2 hi hmm hp ok hm hA hB hw)) (λ x17 h17=>?_);refine bW (gK λ _=>bA rf cN rf (cK _) dI rf jB) (λ _=>?_);refine aG ?_
  refine bB Tryz.results165 (λ w hw=>?_)
  refine⟨x17,rfl,⟨?_,h17.2⟩,hw.rN⟩
  rw[if_neg (by omega)]
  exact h17.1
theorem qa{K:Int->Tr}{i m prev:Int}{s:Mm}{bp bt bm bo bi:Nat}(hK:zS b K s f cap B)(hi:i<=s.nodes.length)(hmm:m<=s.nodes.length)(hpr:prev<=9223372036854775807)(hn:(dY s.nodes m).prev=prev)(o:Bool):oE b 164 [pt bp,pt bt,pt bm,pt bo,pt bi] [.bool o] (bx bp [iv prev]::bx bt [fn f cap]::bx bm [iv m]::bx bo (iH b t)::bx bi [iv i]::B) s (jP i m K):=by
 intro a D A w em ok hm hA hB hw0
 subst em
 refine enter Tryz.func164 Tryz.ntmps164 rfl rfl hw0 ?_
 simp only[bX]
 refine J0 ?_;refine aI (λ x7=>?_);refine aG ?_;refine J0 ?_;refine aB (mU bp [.int .i64 prev] 0 hB rfl) rfl ?_;(refine aB (bY (by(repeat (first|exact cE _|(apply bU;focus ((conv=>{lhs;whnf});try exact rfl))));done)) rfl ?_);refine aP (cV (hc:=λ w1 hw=>nD _ _ _ w1)) (λ x10=>?_);refine bW (gK λ _=>bA rf cN rf (cK _) dI rf jB) (λ _=>?_);refine aG ?_
 refine bB Tryz.results164 (λ w hw=>?_)
 refine⟨(mP prev _ _,[],a),rfl,⟨⟨hmm,?_⟩,ok,AS.iD.refl a⟩,hw.rI⟩
 dsimp only
 rw[hn]
 exact⟨rfl,hpr,_,_,rfl,by kernel_rfl,λ p s1 l hp=>(mj (bt:=bt) (bm:=bm) (bo:=bo) (bi:=bi) (hK.le l) (by have:=l.len;omega) (by have:=l.len;omega) hp).mr (λ y hy=>List.mem_cons_of_mem _ hy)⟩
theorem rb{K:Int->Tr}{i m p prev r:Int}{s:Mm}{bo bi bp bq ba:Nat}(hK:Sy b (λ _=>jP i m K) s f cap B)(hi:i<=s.nodes.length)(hmm:m<=s.nodes.length)(hp:p<=s.nodes.length)(hr:r<=s.nodes.length)(hn:(dY s.nodes m).prev=prev):oE b 168 [pt bo,pt bi,pt bp,pt bq,pt ba] [.int .i64 r] (bx bo (iH b t)::bx bi [iv i]::bx bp [iv prev]::bx bq [iv p]::bx ba [fn f cap]::B) s (.node r λ nr=>.node i λ ni=>qS i m p (nr.gen==ni.gen) K):=by
 intro a D A w em ok hm hA hB hw0
 subst em
 have hK2:=hK.more (B2:=(bx bo (iH b t)::bx bi [iv i]::bx bp [iv prev]::bx bq [iv p]::bx ba [fn f cap]::B)) (λ x hx=>by simp[hx])
 have hpr:prev<=a.mm.cs.length:=by rw[<- hn];exact(ok.mo.at m).prev
 refine enter Tryz.func168 Tryz.ntmps168 rfl rfl hw0 ?_
 simp only[bX]
 refine J0 ?_;refine aI (λ x7=>?_);refine Ql ?_;refine dV [(0,[]),(1,[]),(2,[]),(5,[]),(6,[]),(7,[]),(3,[6,7]),(4,[]),(8,[]),(9,[]),(10,[]),(11,[])] ?_;refine aQ ?_;refine bS (i:=1) (hq:=(mU bo (iH b t) 0 hB rfl)) (h:=?_);refine aM ?_;refine aQ ?_;refine bS (i:=6) (hq:=(mU bo (iH b t) 0 hB rfl)) (h:=?_);refine bS (i:=7) (hq:=(mU bi [.int .i64 i] 0 hB rfl)) (h:=?_);refine aZ (i:=3) (hq:=(It r ok hm hA hr)) (hfire:=(λ _=>by(refine fY ?_;(repeat (first|exact aV.nil|refine aV.cons (by first|exact iC (hq:=mU bo (iH b t) 0 hB rfl)|exact iC (hq:=mU bi [.int .i64 i] 0 hB rfl)) ?_));done))) (h:=λ x12 h12=>?_);refine qR ?_;refine aZ (i:=8) (hq:=(It i ok hm hA hi)) (h:=λ x17 h17=>?_);refine qR ?_;refine lT ?_;refine J7 ?_;refine J0 ?_;refine aB (Ot bo (iH b t) 0 3 hB rfl rfl) rfl ?_;refine aB (mU bp [.int .i64 prev] 0 hB rfl) rfl ?_;refine aB (mU bq [.int .i64 p] 0 hB rfl) rfl ?_;refine aA ?_;refine aB (mU ba [fn f cap] 0 hB rfl) rfl ?_;refine aC (Cm (λ w1 hw=>Jv (K:=λ _=>jP i m K) hK2 hpr hp ok hm hA hB hw)) (λ x25 h25=>?_);refine bW (gK λ _=>bA rf cN rf (cK _) dI rf jB) (λ _=>?_);refine aG ?_
 refine bB Tryz.results168 (λ w hw=>?_)
 refine⟨x25,rfl,⟨⟨hr,hi,?_⟩,h25.2⟩,hw.rN⟩
 rw[iM,iM]
 exact Vz hmm hn h25.1
set_option maxRecDepth 100000 in
set_option maxHeartbeats 2000000 in
theorem p9{K:Int->Tr}{i m p prev:Int}{s:Mm}{bt bm bo bi bp:Nat}(ht:t.root<=9223372036854775807)(hK:zS b K s f cap B)(hi:i<=s.nodes.length)(hmm:m<=s.nodes.length)(hp:p<=s.nodes.length)(hn:(dY s.nodes m).prev=prev):oE b 162 [pt bt,pt bm,pt bo,pt bi,pt bp] [.int .i64 p] (bx bt [fn f cap]::bx bm [iv m]::bx bo (iH b t)::bx bi [iv i]::bx bp [iv prev]::B) s (if p=0 then K m else .node p λ np=>if cL np then(if t.ro=true then qS i m p false K else Jb t λ r=>.node r λ nr=>.node i λ ni=>qS i m p (nr.gen==ni.gen) K) else P5 i m p K):=by
 intro a D A w em ok hm hA hB hw0
 subst em
 have hK2:=hK.more (B2:=(bx bt [fn f cap]::bx bm [iv m]::bx bo (iH b t)::bx bi [iv i]::bx bp [iv prev]::B)) (λ x hx=>by simp[hx])
 have np:=C5 ok p
 have hpr:prev<=a.mm.cs.length:=by rw[<- hn];exact(ok.mo.at m).prev
 have hAg:Sy b (λ _=>jP i m K) a.mm 164 [.pointer (some ⟨bp,0,none⟩),.pointer (some ⟨bt,0,none⟩),.pointer (some ⟨bm,0,none⟩),.pointer (some ⟨bo,0,none⟩),.pointer (some ⟨bi,0,none⟩)] (bx bt [fn f cap]::bx bm [iv m]::bx bo (iH b t)::bx bi [iv i]::bx bp [iv prev]::B):=⟨by kernel_rfl,λ o s1 l=>(qa (t:=t) (prev:=prev) (bp:=bp) (bt:=bt) (bm:=bm) (bo:=bo) (bi:=bi) (hK.le l) (by have:=l.len;omega) (by have:=l.len;omega) (lW hm hpr) (by rw[l.nd hmm];exact hn) o).mr (λ y hy=>by
  simp only[List.mem_cons] at hy ⊢
  rcases hy with h|h|h|h|h|h<;>simp[h])⟩
 have hRt:∀x6 x8:Nat,zS b (λ r=>.node r λ nr=>.node i λ ni=>qS i m p (nr.gen==ni.gen) K) a.mm 168 [.pointer (some ⟨bo,0,none⟩),.pointer (some ⟨bi,0,none⟩),.pointer (some ⟨bp,0,none⟩),.pointer (some ⟨x6,0,none⟩),.pointer (some ⟨x8,0,none⟩)] (bx x8 [.func (.func 164) #[] ⟨[.pointer (some ⟨bp,0,none⟩),.pointer (some ⟨bt,0,none⟩),.pointer (some ⟨bm,0,none⟩),.pointer (some ⟨bo,0,none⟩),.pointer (some ⟨bi,0,none⟩)]⟩]::bx x6 [iv p]::(bx bt [fn f cap]::bx bm [iv m]::bx bo (iH b t)::bx bi [iv i]::bx bp [iv prev]::B)):=λ x6 x8=>⟨by kernel_rfl,λ r s1 l hr=>(rb (t:=t) (prev:=prev) (bo:=bo) (bi:=bi) (bp:=bp) (bq:=x6) (ba:=x8) (hAg.le l) (by have:=l.len;omega) (by have:=l.len;omega) (by have:=l.len;omega) hr (by rw[l.nd hmm];exact hn)).mr (λ y hy=>by
  simp only[List.mem_cons] at hy ⊢
  rcases hy with h|h|h|h|h|h<;>simp[h])⟩
 refine enter Tryz.func162 Tryz.ntmps162 rfl rfl hw0 ?_
 simp only[bX]
 refine J0 ?_;refine bL (λ x6=>?_);refine aI (λ x7=>?_);refine Ql ?_;refine nX ?_;refine uB ?_
 refine bC (λ c10=>?_) (λ c10=>?_)
 ·refine J0 ?_;refine aB (mU bt [fn f cap] 0 hB rfl) rfl ?_;refine aB (mU bm [.int .i64 m] 0 hB rfl) rfl ?_;refine aC (Kr hK2.1 (hK2.2 m a.mm (Mm.Le.refl _) hmm) ok hm hA hB) (λ x13 h13=>?_);refine bW (gK λ _=>bA rf cN rf (cK _) dI rf jB) (λ _=>?_);refine aG ?_
  refine bB Tryz.results162 (λ w hw=>?_)
  refine⟨x13,rfl,⟨?_,h13.2⟩,hw.rN⟩
  rw[if_pos (by omega)]
  exact h13.1
 ·refine kG ?_;refine J0 ?_;refine aE ?_;refine aB (mU bo (iH b t) 0 hB rfl) rfl ?_;refine bN ?_;refine aC (It p ok hm hA hp) (λ x17 h17=>?_);refine aC (c0 (V:=.bool) (hc:=λ w1 hw=>Si ((aD (cW a.L) p).at_ x17.1 x17.2).nd w1)) (λ x18 h18=>?_);refine oK ?_
  refine bC (λ c19=>?_) (λ c19=>?_)
  ·refine J0 ?_;refine aB (Ot bo (iH b t) 0 3 hB rfl rfl) rfl ?_;refine aB (mU bi [.int .i64 i] 0 hB rfl) rfl ?_;refine aB (mU bm [.int .i64 m] 0 hB rfl) rfl ?_;refine bN ?_;refine aB (mU bt [fn f cap] 0 hB rfl) rfl ?_;refine aC (Cm (λ w1 hw=>Ve hK2 hi hmm hp ok hm hA hB hw)) (λ x25 h25=>?_);refine bW (gK λ _=>bA rf cN rf (cK _) dI rf jB) (λ _=>?_);refine aG ?_
   refine bB Tryz.results162 (λ w hw=>?_)
   refine⟨x25,rfl,⟨?_,h25.2⟩,hw.rN⟩
   rw[if_neg (by omega)]
   refine⟨hp,?_⟩
   rw[iM]
   dsimp only
   rw[if_neg (λ hk=>by have h2:=h18.2 hk;rw[h2] at c19;cases c19)]
   exact h25.1
  ·refine aX ?_;refine J0 ?_;(refine aB (bY (by(repeat (first|exact cE _|(apply bU;focus ((conv=>{lhs;whnf});try exact rfl))));done)) rfl ?_);refine aP (gK λ _=>E4 (z:=.nilFunc) (by kernel_rfl) rfl) (λ x8=>?_);refine J5 ?_;refine aT ?_;refine J0 ?_;refine aE ?_;refine aE ?_;refine aB (mU bo (iH b t) 2 hB rfl) rfl ?_;refine aG ?_
   refine bC (λ c29=>?_) (λ c29=>?_)
   ·refine J0 ?_;refine aB (Ot bo (iH b t) 0 3 hB rfl rfl) rfl ?_;refine aB (mU bp [.int .i64 prev] 0 hB rfl) rfl ?_;refine bN ?_;refine bN ?_;refine aC (Cm (λ w1 hw=>Jv (K:=λ _=>jP i m K) hAg hpr hp ok hm hA hB hw)) (λ x34 h34=>?_);refine bW (gK λ _=>bA rf cN rf (cK _) dI rf jB) (λ _=>?_);refine aG ?_
    refine bB Tryz.results162 (λ w hw=>?_)
    refine⟨x34,rfl,⟨?_,h34.2⟩,hw.rN⟩
    rw[if_neg (by omega)]
    refine⟨hp,?_⟩
    rw[iM]
    dsimp only
    rw[if_pos (show cL (aD (cW a.L) p).c from h18.1 (by simpa using c19)),if_pos c29]
    exact Vz hmm hn h34.1
   ·refine Ru (λ w h=>(show SF _ _ [_,(b,dS a)] _ [_,_] _ w from(h.cP (.tail (.tail .head))).cP .head)) ?_
    refine aX ?_;refine J0 ?_;refine aB (Ot bo (iH b t) 0 3 hB rfl rfl) rfl ?_;(refine aB (bY (by(repeat (first|exact cE _|(apply bU;focus ((conv=>{lhs;whnf});try exact rfl))));done)) rfl ?_);refine aC (cM (V:=λ y:Cd×Fr×AS=>.agg ⟨y.1.cells⟩) (hs:=[(b,dS a)]) (os:=dZ a) (hs':=λ y=>[(b,dS y.2.2)]) (os':=λ y=>dZ y.2.2) (Fc:=λ y=>y.2.1) (A0:=bx x8 [.func (.func 164) #[] ⟨[.pointer (some ⟨bp,0,none⟩),.pointer (some ⟨bt,0,none⟩),.pointer (some ⟨bm,0,none⟩),.pointer (some ⟨bo,0,none⟩),.pointer (some ⟨bi,0,none⟩)]⟩]::bx x6 [iv p]::A) (hA:=aW.dm) (hc:=λ w1 hw=>q7 (K:=λ r=>.node r λ nr=>.node i λ ni=>qS i m p (nr.gen==ni.gen) K) (B:=bx x8 [.func (.func 164) #[] ⟨[.pointer (some ⟨bp,0,none⟩),.pointer (some ⟨bt,0,none⟩),.pointer (some ⟨bm,0,none⟩),.pointer (some ⟨bo,0,none⟩),.pointer (some ⟨bi,0,none⟩)]⟩]::bx x6 [iv p]::(bx bt [fn f cap]::bx bm [iv m]::bx bo (iH b t)::bx bi [iv i]::bx bp [iv prev]::B)) ht (hRt x6 x8) ok hm (λ f hf=>List.mem_cons_of_mem _ (List.mem_cons_of_mem _ (hA f hf))) (Fi hB) hw)) (λ x37 h37=>?_);refine bW (gK λ _=>bA rf cN rf (cK _) dI rf jB) (λ _=>?_);refine aG ?_
    refine bB Tryz.results162 (λ w hw=>?_)
    refine⟨(x37.1,x37.2.1++[bx x8 [.func (.func 164) #[] ⟨[.pointer (some ⟨bp,0,none⟩),.pointer (some ⟨bt,0,none⟩),.pointer (some ⟨bm,0,none⟩),.pointer (some ⟨bo,0,none⟩),.pointer (some ⟨bi,0,none⟩)]⟩],bx x6 [iv p]],x37.2.2),rfl,⟨?_,h37.2.1,h37.2.2.more (λ f hf=>List.mem_append_left _ hf)⟩,hw.rI⟩
    rw[if_neg (by omega)]
    refine⟨hp,?_⟩
    rw[iM]
    dsimp only
    rw[if_pos (show cL (aD (cW a.L) p).c from h18.1 (by simpa using c19)),if_neg (by rw[c29];decide)]
    rw[List.append_assoc]
    exact h37.1
theorem Xp{K:Int->Tr}{i m:Int}(ht:t.root<=9223372036854775807)(hK:zS b K a.mm f cap B)(hi:i<=a.mm.nodes.length)(hmm:m<=a.mm.nodes.length)(ok:a.Ok)(hm:a.mm.Small)(hA:∀f∈aK a.L,f∈A)(hB:∀x∈B,x∈A)(hs:SF w D [(b,dS a)] A [] (dZ a) w) :
  Calls Tryz.prog 121 #[.agg ⟨iH b t⟩,.int .i64 i,.int .i64 m,fn f cap] w (Ay b (λ c' s' B'=>kE b (tI t i m K) a.mm c' s' B') a B D w):=by
 have nm:=C5 ok m
 refine enter Tryz.func121 Tryz.ntmps121 rfl rfl hs ?_
 simp only[bX]
 refine J0 ?_;refine bL (λ x4=>?_);refine bL (λ x5=>?_);refine bL (λ x6=>?_);refine bL (λ x7=>?_);refine aI (λ x8=>?_);refine aG ?_;refine gM ?_;refine bN ?_;refine aC (It m ok hm hA hmm) (λ x13 h13=>?_);refine cD ?_;refine aP (gK λ _=>E4 (z:=.int .i64 0) (by kernel_rfl) rfl) (λ x9=>?_);refine J5 ?_;refine nX ?_;(refine aB (bY (by(repeat (first|exact cE _|(apply bU;focus ((conv=>{lhs;whnf});try exact rfl))));done)) rfl ?_);refine aP (cV (hc:=λ w1 hw=>nD _ _ _ w1)) (λ x17=>?_);refine bW (gK λ _=>bA rf cN rf (cK _) dI rf jB) (λ _=>?_);refine aG ?_
 refine bB Tryz.results121 (λ w hw=>?_)
 refine⟨(mP (aD (cW a.L) m).nd.prev _ _,[bx x4 (iH b t),bx x5 [iv i],bx x6 [iv m],bx x7 [fn f cap],bx x9 [iv (aD (cW a.L) m).nd.prev]],a),rfl,⟨⟨hmm,?_⟩,ok,(AS.iD.refl a).more (λ _ h=>(List.not_mem_nil h).elim)⟩,?_⟩
 ·rw[iM]
  refine⟨rfl,lW hm nm.prev,_,_,rfl,by kernel_rfl,λ p s1 l hp=>(p9 (bt:=x7) (bm:=x6) (bo:=x4) (bi:=x5) (bp:=x9) (prev:=(aD (cW a.L) m).nd.prev) ht (hK.le l) (by have:=l.len;omega) (by have:=l.len;omega) hp (by rw[l.nd hmm,iM];rfl)).mr (λ y hy=>?_)⟩
  simp only[List.mem_cons,List.mem_append,List.not_mem_nil,or_false] at hy ⊢
  rcases hy with h|h|h|h|h|h<;>simp[h]
 ·exact(((((hw.cP .head).cP (.tail .head)).cP (.tail .head)).cP (.tail .head)).cP (.tail .head)).rI
end
end

end Go.Proofs.YtbajmaoegmbfgaaGreat
