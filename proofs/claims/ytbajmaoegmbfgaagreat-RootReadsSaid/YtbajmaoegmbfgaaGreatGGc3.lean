/- gcas: root. -/
import Derived.Test.YtbajmaoegmbfgaaGreatGGc0

set_option linter.unusedSimpArgs false
set_option linter.unusedVariables false
namespace Go.Proofs.YtbajmaoegmbfgaaGreat
section
open Go Go.RowKit Go.Ct
section
variable{D:List Nat}{A B:Fr}{a:AS}{b:Nat}{w:World}{f:FuncId}{cap:List Value}{t:gY}
theorem ck{K:Int->Tr}{v x:Int}{s:Mm}{b1 b2 b3:Nat}(ht:t.root<=9223372036854775807)(hK:zN b K s f cap B)(hv:v<=s.nodes.length):oJ b 206 [pt b1,pt b2,pt b3] [.int .i64 x] (bx b1 (iS b t)::bx b2 [iv v]::bx b3 [fn f cap]::B) s (mV t v x K):=by
 intro a D A w em ok hm hA hB hw0
 subst em
 have hK2:=hK.more (B2:=(bx b1 (iS b t)::bx b2 [iv v]::bx b3 [fn f cap]::B)) (λ x hx=>by simp[hx])
 refine enter Tryz.func206 Tryz.ntmps206 rfl rfl hw0 ?_
 simp only[cN]
 all_goals (refine J0 ?_;refine aJ (λ x5=>?_);refine aH ?_;refine J0 ?_;refine aB (On b1 (iS b t) 0 3 hB rfl rfl) rfl ?_;refine aB (mS b2 [.int .i64 v] 0 hB rfl) rfl ?_;refine aA ?_;refine aB (mS b3 [fn f cap] 0 hB rfl) rfl ?_;refine aC (Bj (λ w1 hw=>oC ht hK2 hv ok hm hA hB hw)) (λ x10 h10=>?_);refine bZ (dR λ _=>aK rf bQ rf (cO _) cD rf eE) (λ _=>?_);refine aH ?_)
 all_goals
 refine bE Tryz.results206 (λ w hw=>?_)
 exact⟨x10,rfl,h10,hw.rN⟩
theorem Ys{K:Int->Tr}{v:Int}{s:Mm}{b0 b1 b2 b3:Nat}{nd:Nd}(ht:t.root<=9223372036854775807)(hK:zN b K s f cap B)(hv:v<=s.nodes.length)(hd:nd.status<=9223372036854775807)(o:Bool):oJ b 205 [pt b0,pt b1,pt b2,pt b3] [.bool o] (bx b0 (nd.cells:List Value)::bx b1 (iS b t)::bx b2 [iv v]::bx b3 [fn f cap]::B) s (.load nd.status λ s=>mV t v s K):=by
 intro a D A w em ok hm hA hB hw0
 subst em
 have hK2:=hK.more (B2:=(bx b0 (nd.cells:List Value)::bx b1 (iS b t)::bx b2 [iv v]::bx b3 [fn f cap]::B)) (λ x hx=>by simp[hx])
 refine enter Tryz.func205 Tryz.ntmps205 rfl rfl hw0 ?_
 simp only[cN]
 all_goals (refine J0 ?_;refine aJ (λ x6=>?_);refine aH ?_;refine J0 ?_;refine aE ?_;refine aB (mS b0 (nd.cells:List Value) 13 hB rfl) rfl ?_;(refine aB (cI (by(repeat (first|exact cP _|(apply cC;focus ((conv=>{lhs;whnf});try exact rfl))));first|done|fail)) rfl ?_);refine aY (cV (hc:=λ w1 hw=>nP _ _ _ w1)) (λ x10=>?_);refine bZ (dR λ _=>aK rf bQ rf (cO _) cD rf eE) (λ _=>?_);refine aH ?_)
 all_goals
 refine bE Tryz.results205 (λ w hw=>?_)
 exact⟨(nJ nd.status _ _,[],a),rfl,⟨⟨rfl,hd,_,_,rfl,by kernel_rfl,λ x s1 l hx=>(ck (b1:=b1) (b2:=b2) (b3:=b3) ht (hK.le l) (by have:=l.len;omega)).mr (λ y hy=>List.mem_cons_of_mem _ hy)⟩,ok,AS.iQ.refl a⟩,hw.rI⟩
theorem Z8{K:Int->Tr}{v x:Int}{s:Mm}{b0 b1 b2 b3:Nat}{nd:Nd}(ht:t.root<=9223372036854775807)(hK:zN b K s f cap B)(hv:v<=s.nodes.length)(hd:nd.status<=9223372036854775807)(hn:(fV s.nodes v).status=nd.status):oJ b 204 [pt b1,pt b2,pt b3,pt b0] [.int .i64 x] (bx b1 (iS b t)::bx b2 [iv v]::bx b3 [fn f cap]::bx b0 (nd.cells:List Value)::B) s (if x=0 then .node v λ n=>.kX n.status 0 2 λ _=>.node v λ n=>.load n.status λ s=>mV t v s K else mV t v x K):=by
 intro a D A w em ok hm hA hB hw0
 subst em
 have hK2:=hK.more (B2:=(bx b1 (iS b t)::bx b2 [iv v]::bx b3 [fn f cap]::bx b0 (nd.cells:List Value)::B)) (λ x hx=>by simp[hx])
 refine enter Tryz.func204 Tryz.ntmps204 rfl rfl hw0 ?_
 simp only[cN]
 all_goals (refine J0 ?_;refine aJ (λ x6=>?_);refine aH ?_;refine lW ?_;refine pP ?_;refine aH ?_)
 all_goals
 refine bG (λ c8=>?_) (λ c8=>?_)
 ·all_goals (refine J0 ?_;refine aB (On b1 (iS b t) 0 3 hB rfl rfl) rfl ?_;refine aB (mS b2 [.int .i64 v] 0 hB rfl) rfl ?_;refine aA ?_;refine aB (mS b3 [fn f cap] 0 hB rfl) rfl ?_;refine aC (Bj (λ w1 hw=>oC ht hK2 hv ok hm hA hB hw)) (λ x13 h13=>?_);refine bZ (dR λ _=>aK rf bQ rf (cO _) cD rf eE) (λ _=>?_);refine aH ?_)
  all_goals
   refine bE Tryz.results204 (λ w hw=>?_)
   refine⟨x13,rfl,⟨?_,h13.2⟩,hw.rN⟩
   rw[if_neg (by omega)]
   exact h13.1
 ·all_goals (refine bD ?_;refine J0 ?_;refine aE ?_;refine aB (mS b0 (nd.cells:List Value) 13 hB rfl) rfl ?_;(refine aB (cI (by(repeat (first|exact cP _|(apply cC;focus ((conv=>{lhs;whnf});try exact rfl))));first|done|fail)) rfl ?_);refine aY (cV (hc:=λ w1 hw=>tM _ _ _ _ _ w1)) (λ x17=>?_);refine bZ (dR λ _=>aK rf bQ rf (cO _) cD rf eE) (λ _=>?_);refine aH ?_)
  all_goals
   refine bE Tryz.results204 (λ w hw=>?_)
   refine⟨(tY nd.status 0 2 _ _,[],a),rfl,⟨?_,ok,AS.iQ.refl a⟩,hw.rI⟩
   rw[if_pos (by omega)]
   refine⟨hv,?_⟩
   dsimp only
   rw[hn]
   refine⟨rfl,hd,by have:=ok.mo.two;omega,_,_,rfl,by kernel_rfl,λ o s1 l=>?_⟩
   have hlen:=l.len
   show zC b _ _ _ _ s1 λ c' s' B'=>v<=s1.nodes.length/\kW b (.load (fV s1.nodes v).status λ s=>mV t v s K) s1 c' s' B'
   rw[l.nd hv,hn]
   exact(Ys (b0:=b0) (b1:=b1) (b2:=b2) (b3:=b3) (nd:=nd) ht (hK.le l) (by omega) hd o).more (λ y hy=>by
   simp only[List.mem_cons,List.append_eq,List.nil_append] at hy ⊢
   rcases hy with h|h|h|h|h<;>simp[h]) λ c m C C2 hC h=>⟨by omega,h.more hC⟩
theorem Zj{K:Int->Tr}{v:Int}{s:Mm}{b1 b3:Nat}(ht:t.root<=9223372036854775807)(hK:zN b K s f cap B)(hv:v<=s.nodes.length):oJ b 203 [pt b1,pt b3] [.int .i64 v] (bx b1 (iS b t)::bx b3 [fn f cap]::B) s (.node v λ n=>if n.kind=2 then K v else .node v λ n=>.load n.status λ s=>if s=0 then .node v λ n=>.kX n.status 0 2 λ _=>.node v λ n=>.load n.status λ s=>mV t v s K else mV t v s K):=by
 intro a D A w em ok hm hA hB hw0
 subst em
 have hK2:=hK.more (B2:=(bx b1 (iS b t)::bx b3 [fn f cap]::B)) (λ x hx=>by simp[hx])
 have nv:=C3 ok v
 refine enter Tryz.func203 Tryz.ntmps203 rfl rfl hw0 ?_
 simp only[cN]
 all_goals (refine J0 ?_;refine bW (λ x3=>?_);refine aJ (λ x4=>?_);refine aH ?_;refine J0 ?_;refine aE ?_;refine aB (mS b1 (iS b t) 0 hB rfl) rfl ?_;refine bX ?_;refine aC (Hz v ok hm hA hv) (λ x9 h9=>?_);refine aJ (λ x5=>?_);refine J5 ?_;refine Cs ?_;refine uS ?_)
 all_goals
 refine bG (λ c12=>?_) (λ c12=>?_)
 ·all_goals (refine J0 ?_;refine aB (mS b3 [fn f cap] 0 hB rfl) rfl ?_;refine bX ?_;refine aC (Kj hK2.1 (hK2.2 v a.mm (Mm.Le.refl _) hv) ok hm hA hB) (λ x15 h15=>?_);refine bZ (dR λ _=>aK rf bQ rf (cO _) cD rf eE) (λ _=>?_);refine aH ?_)
  all_goals
   refine bE Tryz.results203 (λ w hw=>?_)
   refine⟨x15,rfl,⟨⟨hv,?_⟩,h15.2⟩,hw.rN⟩
   rw[iW]
   dsimp only
   rw[if_pos (by assumption)]
   exact h15.1
 ·all_goals (refine bD ?_;refine iZ ?_;(refine aB (cI (by(repeat (first|exact cP _|(apply cC;focus ((conv=>{lhs;whnf});try exact rfl))));first|done|fail)) rfl ?_);refine aY (cV (hc:=λ w1 hw=>nP _ _ _ w1)) (λ x19=>?_);refine bZ (dR λ _=>aK rf bQ rf (cO _) cD rf eE) (λ _=>?_);refine aH ?_)
  all_goals
   refine bE Tryz.results203 (λ w hw=>?_)
   refine⟨(nJ (aD (dG a.L) v).nd.status _ _,[bx x5 (((aD (dG a.L) v).at_ x9.1 x9.2).nd.cells:List Value),bx x3 [iv v]],a),rfl,⟨⟨hv,?_⟩,ok,(AS.iQ.refl a).more (λ _ h=>(List.not_mem_nil h).elim)⟩,?_⟩
   ·rw[iW]
    dsimp only
    rw[if_neg (by assumption)]
    refine⟨hv,?_⟩
    rw[iW]
    refine⟨rfl,mE hm nv.status,_,_,rfl,by kernel_rfl,λ x s1 l hx=>?_⟩
    have hlen:=l.len
    exact(Z8 (b0:=x5) (b1:=b1) (b2:=x3) (b3:=b3) (nd:=((aD (dG a.L) v).at_ x9.1 x9.2).nd) ht (hK.le l) (by omega) (mE hm nv.status) (by rw[l.nd hv,iW];rfl)).mr (λ y hy=>by
    simp only[List.mem_cons,List.append_eq,List.nil_append,List.mem_append,List.not_mem_nil,or_false] at hy ⊢
    rcases hy with h|h|h|h|h<;>simp[h])
   ·exact((hw.dB (.tail (.tail .head))).dB .head).rI
theorem o0{K:Int->Tr}(ht:t.root<=9223372036854775807)(hK:zN b K a.mm f cap B)(ok:a.Ok)(hm:a.mm.Small)(hA:∀f∈aR a.L,f∈A)(hB:∀x∈B,x∈A)(hs:SF w D [(b,fM a)] A [] (fX a) w) :
  Calls Tryz.prog 167 #[.agg ⟨iS b t⟩,fn f cap] w (An b (λ c' s' B'=>kW b (Jo t K) a.mm c' s' B') a B D w):=by
 refine enter Tryz.func167 Tryz.ntmps167 rfl rfl hs ?_
 simp only[cN]
 all_goals (refine J0 ?_;refine bW (λ x2=>?_);refine bW (λ x3=>?_);refine aJ (λ x4=>?_);refine aH ?_;refine J0 ?_;refine aE ?_;refine J3 ?_;(refine aB (cI (by(repeat (first|exact cP _|(apply cC;focus ((conv=>{lhs;whnf});try exact rfl))));first|done|fail)) rfl ?_);refine aY (cV (hc:=λ w1 hw=>nP _ _ _ w1)) (λ x9=>?_);refine bZ (dR λ _=>aK rf bQ rf (cO _) cD rf eE) (λ _=>?_);refine aH ?_)
 all_goals
 refine bE Tryz.results167 (λ w hw=>?_)
 refine⟨(nJ t.root _ _,[bx x2 (iS b t),bx x3 [fn f cap]],a),rfl,⟨⟨rfl,ht,_,_,rfl,by kernel_rfl,λ v s1 l hv=>Zj (b1:=x2) (b3:=x3) ht (hK.le l) hv⟩,ok,(AS.iQ.refl a).more (λ _ h=>(List.not_mem_nil h).elim)⟩,?_⟩
 exact((hw.dB (.tail .head)).dB (.tail .head)).rI
end
end

/- gcas: settle. -/
section
open Go Go.RowKit Go.Ct
theorem T8{b:Nat}{i m p prev:Int}{c:Bool}{K:Int->Tr}{s s2:Mm}{cd:Cd}{B:Fr}(hmm:m<=s.nodes.length)(hn:(fV s.nodes m).prev=prev)(h:kW b (ia prev p c λ _=>jY i m K) s cd s2 B):kW b (qW i m p c K) s cd s2 B:=by
 subst hn
 unfold ia at h
 unfold qW
 split
 ·rename_i hc
  rw[if_pos hc] at h
  exact⟨hmm,h⟩
 ·rename_i hc
  rw[if_neg hc] at h
  exact⟨hmm,h⟩
section
variable{D:List Nat}{A B:Fr}{a:AS}{b:Nat}{w:World}{f:FuncId}{cap:List Value}{t:gY}
theorem o7{K:Int->Tr}{i m p:Int}{s:Mm}{bt bm bo bi:Nat}(hK:zN b K s f cap B)(hi:i<=s.nodes.length)(hmm:m<=s.nodes.length)(hp:p<=s.nodes.length):oJ b 165 [pt bt,pt bm,pt bo,pt bi] [.int .i64 p] (bx bt [fn f cap]::bx bm [iv m]::bx bo (iS b t)::bx bi [iv i]::B) s (if p=0 then K m else Ol i m p K):=by
 intro a D A w em ok hm hA hB hw0
 subst em
 have hK2:=hK.more (B2:=(bx bt [fn f cap]::bx bm [iv m]::bx bo (iS b t)::bx bi [iv i]::B)) (λ x hx=>by simp[hx])
 refine enter Tryz.func165 Tryz.ntmps165 rfl rfl hw0 ?_
 simp only[cN]
 all_goals (refine J0 ?_;refine aJ (λ x6=>?_);refine aH ?_;refine lW ?_;refine uS ?_)
 all_goals
 refine bG (λ c8=>?_) (λ c8=>?_)
 ·all_goals (refine J0 ?_;refine aB (mS bt [fn f cap] 0 hB rfl) rfl ?_;refine aB (mS bm [.int .i64 m] 0 hB rfl) rfl ?_;refine aC (Kj hK2.1 (hK2.2 m a.mm (Mm.Le.refl _) hmm) ok hm hA hB) (λ x11 h11=>?_);refine bZ (dR λ _=>aK rf bQ rf (cO _) cD rf eE) (λ _=>?_);refine aH ?_)
  all_goals
   refine bE Tryz.results165 (λ w hw=>?_)
   refine⟨x11,rfl,⟨?_,h11.2⟩,hw.rN⟩
   rw[if_pos (by omega)]
   exact h11.1
 ·all_goals (refine bD ?_;refine J0 ?_;refine aB (On bo (iS b t) 0 3 hB rfl rfl) rfl ?_;refine aB (mS bi [.int .i64 i] 0 hB rfl) rfl ?_;refine aB (mS bm [.int .i64 m] 0 hB rfl) rfl ?_;refine aA ?_;refine aB (mS bt [fn f cap] 0 hB rfl) rfl ?_;refine aC (Bj (λ w1 hw=>Sw hK2 hi hmm hp ok hm hA hB hw)) (λ x17 h17=>?_);refine bZ (dR λ _=>aK rf bQ rf (cO _) cD rf eE) (λ _=>?_);refine aH ?_)
  all_goals
   refine bE Tryz.results165 (λ w hw=>?_)
   refine⟨x17,rfl,⟨?_,h17.2⟩,hw.rN⟩
   rw[if_neg (by omega)]
   exact h17.1
theorem oc{K:Int->Tr}{i m prev:Int}{s:Mm}{bp bt bm bo bi:Nat}(hK:zN b K s f cap B)(hi:i<=s.nodes.length)(hmm:m<=s.nodes.length)(hpr:prev<=9223372036854775807)(hn:(fV s.nodes m).prev=prev)(o:Bool):oJ b 164 [pt bp,pt bt,pt bm,pt bo,pt bi] [.bool o] (bx bp [iv prev]::bx bt [fn f cap]::bx bm [iv m]::bx bo (iS b t)::bx bi [iv i]::B) s (jY i m K):=by
 intro a D A w em ok hm hA hB hw0
 subst em
 refine enter Tryz.func164 Tryz.ntmps164 rfl rfl hw0 ?_
 simp only[cN]
 all_goals (refine J0 ?_;refine aJ (λ x7=>?_);refine aH ?_;refine J0 ?_;refine aB (mS bp [.int .i64 prev] 0 hB rfl) rfl ?_;(refine aB (cI (by(repeat (first|exact cP _|(apply cC;focus ((conv=>{lhs;whnf});try exact rfl))));first|done|fail)) rfl ?_);refine aY (cV (hc:=λ w1 hw=>nP _ _ _ w1)) (λ x10=>?_);refine bZ (dR λ _=>aK rf bQ rf (cO _) cD rf eE) (λ _=>?_);refine aH ?_)
 all_goals
 refine bE Tryz.results164 (λ w hw=>?_)
 refine⟨(nJ prev _ _,[],a),rfl,⟨⟨hmm,?_⟩,ok,AS.iQ.refl a⟩,hw.rI⟩
 dsimp only
 rw[hn]
 exact⟨rfl,hpr,_,_,rfl,by kernel_rfl,λ p s1 l hp=>(o7 (bt:=bt) (bm:=bm) (bo:=bo) (bi:=bi) (hK.le l) (by have:=l.len;omega) (by have:=l.len;omega) hp).mr (λ y hy=>List.mem_cons_of_mem _ hy)⟩
theorem m4{K:Int->Tr}{i m p prev r:Int}{s:Mm}{bo bi bp bq ba:Nat}(hK:Ru b (λ _=>jY i m K) s f cap B)(hi:i<=s.nodes.length)(hmm:m<=s.nodes.length)(hp:p<=s.nodes.length)(hr:r<=s.nodes.length)(hn:(fV s.nodes m).prev=prev):oJ b 168 [pt bo,pt bi,pt bp,pt bq,pt ba] [.int .i64 r] (bx bo (iS b t)::bx bi [iv i]::bx bp [iv prev]::bx bq [iv p]::bx ba [fn f cap]::B) s (.node r λ nr=>.node i λ ni=>qW i m p (nr.gen==ni.gen) K):=by
 intro a D A w em ok hm hA hB hw0
 subst em
 have hK2:=hK.more (B2:=(bx bo (iS b t)::bx bi [iv i]::bx bp [iv prev]::bx bq [iv p]::bx ba [fn f cap]::B)) (λ x hx=>by simp[hx])
 have hpr:prev<=a.mm.cs.length:=by rw[<- hn];exact(ok.mo.at m).prev
 refine enter Tryz.func168 Tryz.ntmps168 rfl rfl hw0 ?_
 simp only[cN]
 all_goals (refine J0 ?_;refine aJ (λ x7=>?_);refine Hs ?_;refine dX [(0,[]),(1,[]),(2,[]),(5,[]),(6,[]),(7,[]),(3,[6,7]),(4,[]),(8,[]),(9,[]),(10,[]),(11,[])] ?_;refine aT ?_;refine bS (i:=1) (hq:=(mS bo (iS b t) 0 hB rfl)) (h:=?_);refine aQ ?_;refine aT ?_;refine bS (i:=6) (hq:=(mS bo (iS b t) 0 hB rfl)) (h:=?_);refine bS (i:=7) (hq:=(mS bi [.int .i64 i] 0 hB rfl)) (h:=?_);refine bA (i:=3) (hq:=(Hz r ok hm hA hr)) (hfire:=(λ _=>by first|((repeat (first|exact aI.nil|refine aI.cons (by first|exact dM (hq:=mS bo (iS b t) 0 hB rfl)|exact dM (hq:=mS bi [.int .i64 i] 0 hB rfl)|exact a_un) ?_));done)|(refine bT ?_;(repeat (first|exact aI.nil|refine aI.cons (by first|exact dM (hq:=mS bo (iS b t) 0 hB rfl)|exact dM (hq:=mS bi [.int .i64 i] 0 hB rfl)|exact a_un) ?_));done))) (h:=λ x12 h12=>?_);refine xP ?_;refine bA (i:=8) (hq:=(Hz i ok hm hA hi)) (h:=λ x17 h17=>?_);refine xP ?_;refine kQ ?_;refine J7 ?_;refine J0 ?_;refine aB (On bo (iS b t) 0 3 hB rfl rfl) rfl ?_;refine aB (mS bp [.int .i64 prev] 0 hB rfl) rfl ?_;refine aB (mS bq [.int .i64 p] 0 hB rfl) rfl ?_;refine aA ?_;refine aB (mS ba [fn f cap] 0 hB rfl) rfl ?_;refine aC (Bj (λ w1 hw=>Ji (K:=λ _=>jY i m K) hK2 hpr hp ok hm hA hB hw)) (λ x25 h25=>?_);refine bZ (dR λ _=>aK rf bQ rf (cO _) cD rf eE) (λ _=>?_);refine aH ?_)
 all_goals
 refine bE Tryz.results168 (λ w hw=>?_)
 refine⟨x25,rfl,⟨⟨hr,hi,?_⟩,h25.2⟩,hw.rN⟩
 rw[iW,iW]
 exact T8 hmm hn h25.1
set_option maxRecDepth 100000 in
set_option maxHeartbeats 2000000 in
theorem me{K:Int->Tr}{i m p prev:Int}{s:Mm}{bt bm bo bi bp:Nat}(ht:t.root<=9223372036854775807)(hK:zN b K s f cap B)(hi:i<=s.nodes.length)(hmm:m<=s.nodes.length)(hp:p<=s.nodes.length)(hn:(fV s.nodes m).prev=prev):oJ b 162 [pt bt,pt bm,pt bo,pt bi,pt bp] [.int .i64 p] (bx bt [fn f cap]::bx bm [iv m]::bx bo (iS b t)::bx bi [iv i]::bx bp [iv prev]::B) s (if p=0 then K m else .node p λ np=>if eV np then(if t.ro=true then qW i m p false K else Jo t λ r=>.node r λ nr=>.node i λ ni=>qW i m p (nr.gen==ni.gen) K) else Ol i m p K):=by
 intro a D A w em ok hm hA hB hw0
 subst em
 have hK2:=hK.more (B2:=(bx bt [fn f cap]::bx bm [iv m]::bx bo (iS b t)::bx bi [iv i]::bx bp [iv prev]::B)) (λ x hx=>by simp[hx])
 have np:=C3 ok p
 have hpr:prev<=a.mm.cs.length:=by rw[<- hn];exact(ok.mo.at m).prev
 have hAg:Ru b (λ _=>jY i m K) a.mm 164 [.pointer (some ⟨bp,0,none⟩),.pointer (some ⟨bt,0,none⟩),.pointer (some ⟨bm,0,none⟩),.pointer (some ⟨bo,0,none⟩),.pointer (some ⟨bi,0,none⟩)] (bx bt [fn f cap]::bx bm [iv m]::bx bo (iS b t)::bx bi [iv i]::bx bp [iv prev]::B):=⟨by kernel_rfl,λ o s1 l=>(oc (t:=t) (prev:=prev) (bp:=bp) (bt:=bt) (bm:=bm) (bo:=bo) (bi:=bi) (hK.le l) (by have:=l.len;omega) (by have:=l.len;omega) (mE hm hpr) (by rw[l.nd hmm];exact hn) o).mr (λ y hy=>by
  simp only[List.mem_cons] at hy ⊢
  rcases hy with h|h|h|h|h|h<;>simp[h])⟩
 have hRt:∀x6 x8:Nat,zN b (λ r=>.node r λ nr=>.node i λ ni=>qW i m p (nr.gen==ni.gen) K) a.mm 168 [.pointer (some ⟨bo,0,none⟩),.pointer (some ⟨bi,0,none⟩),.pointer (some ⟨bp,0,none⟩),.pointer (some ⟨x6,0,none⟩),.pointer (some ⟨x8,0,none⟩)] (bx x8 [.func (.func 164) #[] ⟨[.pointer (some ⟨bp,0,none⟩),.pointer (some ⟨bt,0,none⟩),.pointer (some ⟨bm,0,none⟩),.pointer (some ⟨bo,0,none⟩),.pointer (some ⟨bi,0,none⟩)]⟩]::bx x6 [iv p]::(bx bt [fn f cap]::bx bm [iv m]::bx bo (iS b t)::bx bi [iv i]::bx bp [iv prev]::B)):=λ x6 x8=>⟨by kernel_rfl,λ r s1 l hr=>(m4 (t:=t) (prev:=prev) (bo:=bo) (bi:=bi) (bp:=bp) (bq:=x6) (ba:=x8) (hAg.le l) (by have:=l.len;omega) (by have:=l.len;omega) (by have:=l.len;omega) hr (by rw[l.nd hmm];exact hn)).mr (λ y hy=>by
  simp only[List.mem_cons] at hy ⊢
  rcases hy with h|h|h|h|h|h<;>simp[h])⟩
 refine enter Tryz.func162 Tryz.ntmps162 rfl rfl hw0 ?_
 simp only[cN]
 all_goals (refine J0 ?_;refine bW (λ x6=>?_);refine aJ (λ x7=>?_);refine Hs ?_;refine qF ?_;refine uS ?_)
 all_goals
 refine bG (λ c10=>?_) (λ c10=>?_)
 ·all_goals (refine J0 ?_;refine aB (mS bt [fn f cap] 0 hB rfl) rfl ?_;refine aB (mS bm [.int .i64 m] 0 hB rfl) rfl ?_;refine aC (Kj hK2.1 (hK2.2 m a.mm (Mm.Le.refl _) hmm) ok hm hA hB) (λ x13 h13=>?_);refine bZ (dR λ _=>aK rf bQ rf (cO _) cD rf eE) (λ _=>?_);refine aH ?_)
  all_goals
   refine bE Tryz.results162 (λ w hw=>?_)
   refine⟨x13,rfl,⟨?_,h13.2⟩,hw.rN⟩
   rw[if_pos (by omega)]
   exact h13.1
 ·all_goals (refine lG ?_;refine J0 ?_;refine aE ?_;refine aB (mS bo (iS b t) 0 hB rfl) rfl ?_;refine bX ?_;refine aC (Hz p ok hm hA hp) (λ x17 h17=>?_);refine aC (c0 (V:=.bool) (hc:=λ w1 hw=>Q1 ((aD (dG a.L) p).at_ x17.1 x17.2).nd w1)) (λ x18 h18=>?_);refine qT ?_)
  all_goals
   refine bG (λ c19=>?_) (λ c19=>?_)
   ·all_goals (refine J0 ?_;refine aB (On bo (iS b t) 0 3 hB rfl rfl) rfl ?_;refine aB (mS bi [.int .i64 i] 0 hB rfl) rfl ?_;refine aB (mS bm [.int .i64 m] 0 hB rfl) rfl ?_;refine bX ?_;refine aB (mS bt [fn f cap] 0 hB rfl) rfl ?_;refine aC (Bj (λ w1 hw=>Sw hK2 hi hmm hp ok hm hA hB hw)) (λ x25 h25=>?_);refine bZ (dR λ _=>aK rf bQ rf (cO _) cD rf eE) (λ _=>?_);refine aH ?_)
    all_goals
    refine bE Tryz.results162 (λ w hw=>?_)
    refine⟨x25,rfl,⟨?_,h25.2⟩,hw.rN⟩
    rw[if_neg (by omega)]
    refine⟨hp,?_⟩
    rw[iW]
    dsimp only
    rw[if_neg (λ hk=>by have h2:=h18.2 hk;rw[h2] at c19;cases c19)]
    exact h25.1
   ·all_goals (refine bD ?_;refine J0 ?_;(refine aB (cI (by(repeat (first|exact cP _|(apply cC;focus ((conv=>{lhs;whnf});try exact rfl))));first|done|fail)) rfl ?_);refine aY (dR λ _=>Gt (z:=.nilFunc) (by kernel_rfl) rfl) (λ x8=>?_);refine J5 ?_;refine aW ?_;refine J0 ?_;refine aE ?_;refine aE ?_;refine aB (mS bo (iS b t) 2 hB rfl) rfl ?_;refine aH ?_)
    all_goals
    refine bG (λ c29=>?_) (λ c29=>?_)
    ·all_goals (refine J0 ?_;refine aB (On bo (iS b t) 0 3 hB rfl rfl) rfl ?_;refine aB (mS bp [.int .i64 prev] 0 hB rfl) rfl ?_;refine bX ?_;refine bX ?_;refine aC (Bj (λ w1 hw=>Ji (K:=λ _=>jY i m K) hAg hpr hp ok hm hA hB hw)) (λ x34 h34=>?_);refine bZ (dR λ _=>aK rf bQ rf (cO _) cD rf eE) (λ _=>?_);refine aH ?_)
     all_goals
      refine bE Tryz.results162 (λ w hw=>?_)
      refine⟨x34,rfl,⟨?_,h34.2⟩,hw.rN⟩
      rw[if_neg (by omega)]
      refine⟨hp,?_⟩
      rw[iW]
      dsimp only
      rw[if_pos (show eV (aD (dG a.L) p).c from h18.1 (by simpa using c19)),if_pos c29]
      exact T8 hmm hn h34.1
    ·all_goals
      refine Q6 (λ w h=>(show SF _ _ [_,(b,fM a)] _ [_,_] _ w from(h.dB (.tail (.tail .head))).dB .head)) ?_
     all_goals (refine bD ?_;refine J0 ?_;refine aB (On bo (iS b t) 0 3 hB rfl rfl) rfl ?_;(refine aB (cI (by(repeat (first|exact cP _|(apply cC;focus ((conv=>{lhs;whnf});try exact rfl))));first|done|fail)) rfl ?_);refine aC (cM (V:=λ y:Cd×Fr×AS=>.agg ⟨y.1.cells⟩) (hs:=[(b,fM a)]) (os:=fX a) (hs':=λ y=>[(b,fM y.2.2)]) (os':=λ y=>fX y.2.2) (Fc:=λ y=>y.2.1) (A0:=bx x8 [.func (.func 164) #[] ⟨[.pointer (some ⟨bp,0,none⟩),.pointer (some ⟨bt,0,none⟩),.pointer (some ⟨bm,0,none⟩),.pointer (some ⟨bo,0,none⟩),.pointer (some ⟨bi,0,none⟩)]⟩]::bx x6 [iv p]::A) (hA:=bB.db) (hc:=λ w1 hw=>o0 (K:=λ r=>.node r λ nr=>.node i λ ni=>qW i m p (nr.gen==ni.gen) K) (B:=bx x8 [.func (.func 164) #[] ⟨[.pointer (some ⟨bp,0,none⟩),.pointer (some ⟨bt,0,none⟩),.pointer (some ⟨bm,0,none⟩),.pointer (some ⟨bo,0,none⟩),.pointer (some ⟨bi,0,none⟩)]⟩]::bx x6 [iv p]::(bx bt [fn f cap]::bx bm [iv m]::bx bo (iS b t)::bx bi [iv i]::bx bp [iv prev]::B)) ht (hRt x6 x8) ok hm (λ f hf=>List.mem_cons_of_mem _ (List.mem_cons_of_mem _ (hA f hf))) (Fi hB) hw)) (λ x37 h37=>?_);refine bZ (dR λ _=>aK rf bQ rf (cO _) cD rf eE) (λ _=>?_);refine aH ?_)
     all_goals
      refine bE Tryz.results162 (λ w hw=>?_)
      refine⟨(x37.1,x37.2.1++[bx x8 [.func (.func 164) #[] ⟨[.pointer (some ⟨bp,0,none⟩),.pointer (some ⟨bt,0,none⟩),.pointer (some ⟨bm,0,none⟩),.pointer (some ⟨bo,0,none⟩),.pointer (some ⟨bi,0,none⟩)]⟩],bx x6 [iv p]],x37.2.2),rfl,⟨?_,h37.2.1,h37.2.2.more (λ f hf=>List.mem_append_left _ hf)⟩,hw.rI⟩
      rw[if_neg (by omega)]
      refine⟨hp,?_⟩
      rw[iW]
      dsimp only
      rw[if_pos (show eV (aD (dG a.L) p).c from h18.1 (by simpa using c19)),if_neg (by rw[c29];decide)]
      rw[List.append_assoc]
      exact h37.1
theorem V5{K:Int->Tr}{i m:Int}(ht:t.root<=9223372036854775807)(hK:zN b K a.mm f cap B)(hi:i<=a.mm.nodes.length)(hmm:m<=a.mm.nodes.length)(ok:a.Ok)(hm:a.mm.Small)(hA:∀f∈aR a.L,f∈A)(hB:∀x∈B,x∈A)(hs:SF w D [(b,fM a)] A [] (fX a) w) :
  Calls Tryz.prog 121 #[.agg ⟨iS b t⟩,.int .i64 i,.int .i64 m,fn f cap] w (An b (λ c' s' B'=>kW b (sJ t i m K) a.mm c' s' B') a B D w):=by
 have nm:=C3 ok m
 refine enter Tryz.func121 Tryz.ntmps121 rfl rfl hs ?_
 simp only[cN]
 all_goals (refine J0 ?_;refine bW (λ x4=>?_);refine bW (λ x5=>?_);refine bW (λ x6=>?_);refine bW (λ x7=>?_);refine aJ (λ x8=>?_);refine aH ?_;refine iZ ?_;refine bX ?_;refine aC (Hz m ok hm hA hmm) (λ x13 h13=>?_);refine dF ?_;refine aY (dR λ _=>Gt (z:=.int .i64 0) (by kernel_rfl) rfl) (λ x9=>?_);refine J5 ?_;refine qF ?_;(refine aB (cI (by(repeat (first|exact cP _|(apply cC;focus ((conv=>{lhs;whnf});try exact rfl))));first|done|fail)) rfl ?_);refine aY (cV (hc:=λ w1 hw=>nP _ _ _ w1)) (λ x17=>?_);refine bZ (dR λ _=>aK rf bQ rf (cO _) cD rf eE) (λ _=>?_);refine aH ?_)
 all_goals
 refine bE Tryz.results121 (λ w hw=>?_)
 refine⟨(nJ (aD (dG a.L) m).nd.prev _ _,[bx x4 (iS b t),bx x5 [iv i],bx x6 [iv m],bx x7 [fn f cap],bx x9 [iv (aD (dG a.L) m).nd.prev]],a),rfl,⟨⟨hmm,?_⟩,ok,(AS.iQ.refl a).more (λ _ h=>(List.not_mem_nil h).elim)⟩,?_⟩
 ·rw[iW]
  refine⟨rfl,mE hm nm.prev,_,_,rfl,by kernel_rfl,λ p s1 l hp=>(me (bt:=x7) (bm:=x6) (bo:=x4) (bi:=x5) (bp:=x9) (prev:=(aD (dG a.L) m).nd.prev) ht (hK.le l) (by have:=l.len;omega) (by have:=l.len;omega) hp (by rw[l.nd hmm,iW];rfl)).mr (λ y hy=>?_)⟩
  simp only[List.mem_cons,List.mem_append,List.not_mem_nil,or_false] at hy ⊢
  rcases hy with h|h|h|h|h|h<;>simp[h]
 ·exact(((((hw.dB .head).dB (.tail .head)).dB (.tail .head)).dB (.tail .head)).dB (.tail .head)).rI
end
end

end Go.Proofs.YtbajmaoegmbfgaaGreat
