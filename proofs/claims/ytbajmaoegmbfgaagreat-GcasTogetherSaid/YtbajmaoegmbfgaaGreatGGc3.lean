/- gcas: root. -/
import Derived.Test.YtbajmaoegmbfgaaGreatGGc0

set_option linter.unusedSimpArgs false
set_option linter.unusedVariables false
namespace Go.Proofs.YtbajmaoegmbfgaaGreat
section
open Go Go.RowKit Go.Ct
section
variable{D:List Nat}{A B:Fr}{a:AS}{b:Nat}{w:World}{f:FuncId}{cap:List Value}{t:gK}
theorem bg{K:Int->Tr}{v x:Int}{s:Mm}{b1 b2 b3:Nat}(ht:t.root<=9223372036854775807)(hK:Ex b K s f cap B)(hv:v<=s.nodes.length):wM b 206 [pt b1,pt b2,pt b3] [.int .i64 x] (bx b1 (lJ b t)::bx b2 [iv v]::bx b3 [fn f cap]::B) s (vJ t v x K):=by
 intro a D A w em ok hm hA hB hw0
 subst em
 have hK2:=hK.more (B2:=(bx b1 (lJ b t)::bx b2 [iv v]::bx b3 [fn f cap]::B)) (λ x hx=>by simp[hx])
 refine enter Tryz.func206 Tryz.ntmps206 rfl rfl hw0 ?_
 simp only[bX]
 refine J0 ?_;refine aJ (λ x5=>?_);refine aH ?_;refine J0 ?_;refine aC (mw b1 (lJ b t) 0 3 hB rfl rfl) rfl ?_;refine aC (qI b2 [.int .i64 v] 0 hB rfl) rfl ?_;refine aA ?_;refine aC (qI b3 [fn f cap] 0 hB rfl) rfl ?_;refine aD (I9 (λ w1 hw=>Cz ht hK2 hv ok hm hA hB hw)) (λ x10 h10=>?_);refine cP (jA λ _=>bO rf cQ rf (dM _) eD rf kO) (λ _=>?_);refine aH ?_
 refine bC Tryz.results206 (λ w hw=>?_)
 exact⟨x10,rfl,h10,hw.rN⟩
theorem ap{K:Int->Tr}{v:Int}{s:Mm}{b0 b1 b2 b3:Nat}{nd:Nd}(ht:t.root<=9223372036854775807)(hK:Ex b K s f cap B)(hv:v<=s.nodes.length)(hd:nd.status<=9223372036854775807)(o:Bool):wM b 205 [pt b0,pt b1,pt b2,pt b3] [.bool o] (bx b0 (nd.cells:List Value)::bx b1 (lJ b t)::bx b2 [iv v]::bx b3 [fn f cap]::B) s (.load nd.status λ s=>vJ t v s K):=by
 intro a D A w em ok hm hA hB hw0
 subst em
 have hK2:=hK.more (B2:=(bx b0 (nd.cells:List Value)::bx b1 (lJ b t)::bx b2 [iv v]::bx b3 [fn f cap]::B)) (λ x hx=>by simp[hx])
 refine enter Tryz.func205 Tryz.ntmps205 rfl rfl hw0 ?_
 simp only[bX]
 refine J0 ?_;refine aJ (λ x6=>?_);refine aH ?_;refine J0 ?_;refine aE ?_;refine aC (qI b0 (nd.cells:List Value) 13 hB rfl) rfl ?_;(refine aC (dD (by(repeat (first|exact dC _|(apply cI;focus ((conv=>{lhs;whnf});try exact rfl))));done)) rfl ?_);refine aS (cV (hc:=λ w1 hw=>xS _ _ _ w1)) (λ x10=>?_);refine cP (jA λ _=>bO rf cQ rf (dM _) eD rf kO) (λ _=>?_);refine aH ?_
 refine bC Tryz.results205 (λ w hw=>?_)
 exact⟨(sH nd.status _ _,[],a),rfl,⟨⟨rfl,hd,_,_,rfl,by kernel_rfl,λ x s1 l hx=>(bg (b1:=b1) (b2:=b2) (b3:=b3) ht (hK.le l) (by have:=l.len;omega)).mr (λ y hy=>List.mem_cons_of_mem _ hy)⟩,ok,AS.jF.refl a⟩,hw.rI⟩
theorem lr{K:Int->Tr}{v x:Int}{s:Mm}{b0 b1 b2 b3:Nat}{nd:Nd}(ht:t.root<=9223372036854775807)(hK:Ex b K s f cap B)(hv:v<=s.nodes.length)(hd:nd.status<=9223372036854775807)(hn:(cD s.nodes v).status=nd.status):wM b 204 [pt b1,pt b2,pt b3,pt b0] [.int .i64 x] (bx b1 (lJ b t)::bx b2 [iv v]::bx b3 [fn f cap]::bx b0 (nd.cells:List Value)::B) s (if x=0 then .node v λ n=>.kY n.status 0 2 λ _=>.node v λ n=>.load n.status λ s=>vJ t v s K else vJ t v x K):=by
 intro a D A w em ok hm hA hB hw0
 subst em
 have hK2:=hK.more (B2:=(bx b1 (lJ b t)::bx b2 [iv v]::bx b3 [fn f cap]::bx b0 (nd.cells:List Value)::B)) (λ x hx=>by simp[hx])
 refine enter Tryz.func204 Tryz.ntmps204 rfl rfl hw0 ?_
 simp only[bX]
 refine J0 ?_;refine aJ (λ x6=>?_);refine aH ?_;refine kB ?_;refine lS ?_;refine aH ?_
 refine bB (λ c8=>?_) (λ c8=>?_)
 ·refine J0 ?_;refine aC (mw b1 (lJ b t) 0 3 hB rfl rfl) rfl ?_;refine aC (qI b2 [.int .i64 v] 0 hB rfl) rfl ?_;refine aA ?_;refine aC (qI b3 [fn f cap] 0 hB rfl) rfl ?_;refine aD (I9 (λ w1 hw=>Cz ht hK2 hv ok hm hA hB hw)) (λ x13 h13=>?_);refine cP (jA λ _=>bO rf cQ rf (dM _) eD rf kO) (λ _=>?_);refine aH ?_
  refine bC Tryz.results204 (λ w hw=>?_)
  refine⟨x13,rfl,⟨?_,h13.2⟩,hw.rN⟩
  rw[if_neg (by omega)]
  exact h13.1
 ·refine bA ?_;refine J0 ?_;refine aE ?_;refine aC (qI b0 (nd.cells:List Value) 13 hB rfl) rfl ?_;(refine aC (dD (by(repeat (first|exact dC _|(apply cI;focus ((conv=>{lhs;whnf});try exact rfl))));done)) rfl ?_);refine aS (cV (hc:=λ w1 hw=>zF _ _ _ _ _ w1)) (λ x17=>?_);refine cP (jA λ _=>bO rf cQ rf (dM _) eD rf kO) (λ _=>?_);refine aH ?_
  refine bC Tryz.results204 (λ w hw=>?_)
  refine⟨(yL nd.status 0 2 _ _,[],a),rfl,⟨?_,ok,AS.jF.refl a⟩,hw.rI⟩
  rw[if_pos (by omega)]
  refine⟨hv,?_⟩
  dsimp only
  rw[hn]
  refine⟨rfl,hd,by have:=ok.mo.two;omega,_,_,rfl,by kernel_rfl,λ o s1 l=>?_⟩
  have hlen:=l.len
  show zK b _ _ _ _ s1 λ c' s' B'=>v<=s1.nodes.length/\kZ b (.load (cD s1.nodes v).status λ s=>vJ t v s K) s1 c' s' B'
  rw[l.nd hv,hn]
  exact(ap (b0:=b0) (b1:=b1) (b2:=b2) (b3:=b3) (nd:=nd) ht (hK.le l) (by omega) hd o).more (λ y hy=>by
  simp only[List.mem_cons,List.append_eq,List.nil_append] at hy ⊢
  rcases hy with h|h|h|h|h<;>simp[h]) λ c m C C2 hC h=>⟨by omega,h.more hC⟩
theorem av{K:Int->Tr}{v:Int}{s:Mm}{b1 b3:Nat}(ht:t.root<=9223372036854775807)(hK:Ex b K s f cap B)(hv:v<=s.nodes.length):wM b 203 [pt b1,pt b3] [.int .i64 v] (bx b1 (lJ b t)::bx b3 [fn f cap]::B) s (.node v λ n=>if n.kind=2 then K v else .node v λ n=>.load n.status λ s=>if s=0 then .node v λ n=>.kY n.status 0 2 λ _=>.node v λ n=>.load n.status λ s=>vJ t v s K else vJ t v s K):=by
 intro a D A w em ok hm hA hB hw0
 subst em
 have hK2:=hK.more (B2:=(bx b1 (lJ b t)::bx b3 [fn f cap]::B)) (λ x hx=>by simp[hx])
 have nv:=Db ok v
 refine enter Tryz.func203 Tryz.ntmps203 rfl rfl hw0 ?_
 simp only[bX]
 refine J0 ?_;refine bI (λ x3=>?_);refine aJ (λ x4=>?_);refine aH ?_;refine J0 ?_;refine aE ?_;refine aC (qI b1 (lJ b t) 0 hB rfl) rfl ?_;refine bL ?_;refine aD (Je v ok hm hA hv) (λ x9 h9=>?_);refine aJ (λ x5=>?_);refine J5 ?_;refine Dk ?_;refine uG ?_
 refine bB (λ c12=>?_) (λ c12=>?_)
 ·refine J0 ?_;refine aC (qI b3 [fn f cap] 0 hB rfl) rfl ?_;refine bL ?_;refine aD (T5 hK2.1 (hK2.2 v a.mm (Mm.Le.refl _) hv) ok hm hA hB) (λ x15 h15=>?_);refine cP (jA λ _=>bO rf cQ rf (dM _) eD rf kO) (λ _=>?_);refine aH ?_
  refine bC Tryz.results203 (λ w hw=>?_)
  refine⟨x15,rfl,⟨⟨hv,?_⟩,h15.2⟩,hw.rN⟩
  rw[mB]
  dsimp only
  rw[if_pos (by assumption)]
  exact h15.1
 ·refine bA ?_;refine gZ ?_;(refine aC (dD (by(repeat (first|exact dC _|(apply cI;focus ((conv=>{lhs;whnf});try exact rfl))));done)) rfl ?_);refine aS (cV (hc:=λ w1 hw=>xS _ _ _ w1)) (λ x19=>?_);refine cP (jA λ _=>bO rf cQ rf (dM _) eD rf kO) (λ _=>?_);refine aH ?_
  refine bC Tryz.results203 (λ w hw=>?_)
  refine⟨(sH (aB (cZ a.L) v).nd.status _ _,[bx x5 (((aB (cZ a.L) v).at_ x9.1 x9.2).nd.cells:List Value),bx x3 [iv v]],a),rfl,⟨⟨hv,?_⟩,ok,(AS.jF.refl a).more (λ _ h=>(List.not_mem_nil h).elim)⟩,?_⟩
  ·rw[mB]
   dsimp only
   rw[if_neg (by assumption)]
   refine⟨hv,?_⟩
   rw[mB]
   refine⟨rfl,qL hm nv.status,_,_,rfl,by kernel_rfl,λ x s1 l hx=>?_⟩
   have hlen:=l.len
   exact(lr (b0:=x5) (b1:=b1) (b2:=x3) (b3:=b3) (nd:=((aB (cZ a.L) v).at_ x9.1 x9.2).nd) ht (hK.le l) (by omega) (qL hm nv.status) (by rw[l.nd hv,mB];rfl)).mr (λ y hy=>by
   simp only[List.mem_cons,List.append_eq,List.nil_append,List.mem_append,List.not_mem_nil,or_false] at hy ⊢
   rcases hy with h|h|h|h|h<;>simp[h])
  ·exact((hw.dG (.tail (.tail .head))).dG .head).rI
theorem qn{K:Int->Tr}(ht:t.root<=9223372036854775807)(hK:Ex b K a.mm f cap B)(ok:a.Ok)(hm:a.mm.Small)(hA:∀f∈aK a.L,f∈A)(hB:∀x∈B,x∈A)(hs:SF w D [(b,fH a)] A [] (fM a) w) :
  Calls Tryz.prog 167 #[.agg ⟨lJ b t⟩,fn f cap] w (Ea b (λ c' s' B'=>kZ b (Kj t K) a.mm c' s' B') a B D w):=by
 refine enter Tryz.func167 Tryz.ntmps167 rfl rfl hs ?_
 simp only[bX]
 refine J0 ?_;refine bI (λ x2=>?_);refine bI (λ x3=>?_);refine aJ (λ x4=>?_);refine aH ?_;refine J0 ?_;refine aE ?_;refine J3 ?_;(refine aC (dD (by(repeat (first|exact dC _|(apply cI;focus ((conv=>{lhs;whnf});try exact rfl))));done)) rfl ?_);refine aS (cV (hc:=λ w1 hw=>xS _ _ _ w1)) (λ x9=>?_);refine cP (jA λ _=>bO rf cQ rf (dM _) eD rf kO) (λ _=>?_);refine aH ?_
 refine bC Tryz.results167 (λ w hw=>?_)
 refine⟨(sH t.root _ _,[bx x2 (lJ b t),bx x3 [fn f cap]],a),rfl,⟨⟨rfl,ht,_,_,rfl,by kernel_rfl,λ v s1 l hv=>av (b1:=x2) (b3:=x3) ht (hK.le l) hv⟩,ok,(AS.jF.refl a).more (λ _ h=>(List.not_mem_nil h).elim)⟩,?_⟩
 exact((hw.dG (.tail .head)).dG (.tail .head)).rI
end
end

/- gcas: settle. -/
section
open Go Go.RowKit Go.Ct
theorem W4{b:Nat}{i m p prev:Int}{c:Bool}{K:Int->Tr}{s s2:Mm}{cd:Cd}{B:Fr}(hmm:m<=s.nodes.length)(hn:(cD s.nodes m).prev=prev)(h:kZ b (jq prev p c λ _=>jP i m K) s cd s2 B):kZ b (qT i m p c K) s cd s2 B:=by
 subst hn
 unfold jq at h
 unfold qT
 split
 ·rename_i hc
  rw[if_pos hc] at h
  exact⟨hmm,h⟩
 ·rename_i hc
  rw[if_neg hc] at h
  exact⟨hmm,h⟩
section
variable{D:List Nat}{A B:Fr}{a:AS}{b:Nat}{w:World}{f:FuncId}{cap:List Value}{t:gK}
theorem tv{K:Int->Tr}{i m p:Int}{s:Mm}{bt bm bo bi:Nat}(hK:Ex b K s f cap B)(hi:i<=s.nodes.length)(hmm:m<=s.nodes.length)(hp:p<=s.nodes.length):wM b 165 [pt bt,pt bm,pt bo,pt bi] [.int .i64 p] (bx bt [fn f cap]::bx bm [iv m]::bx bo (lJ b t)::bx bi [iv i]::B) s (if p=0 then K m else Qc i m p K):=by
 intro a D A w em ok hm hA hB hw0
 subst em
 have hK2:=hK.more (B2:=(bx bt [fn f cap]::bx bm [iv m]::bx bo (lJ b t)::bx bi [iv i]::B)) (λ x hx=>by simp[hx])
 refine enter Tryz.func165 Tryz.ntmps165 rfl rfl hw0 ?_
 simp only[bX]
 refine J0 ?_;refine aJ (λ x6=>?_);refine aH ?_;refine kB ?_;refine uG ?_
 refine bB (λ c8=>?_) (λ c8=>?_)
 ·refine J0 ?_;refine aC (qI bt [fn f cap] 0 hB rfl) rfl ?_;refine aC (qI bm [.int .i64 m] 0 hB rfl) rfl ?_;refine aD (T5 hK2.1 (hK2.2 m a.mm (Mm.Le.refl _) hmm) ok hm hA hB) (λ x11 h11=>?_);refine cP (jA λ _=>bO rf cQ rf (dM _) eD rf kO) (λ _=>?_);refine aH ?_
  refine bC Tryz.results165 (λ w hw=>?_)
  refine⟨x11,rfl,⟨?_,h11.2⟩,hw.rN⟩
  rw[if_pos (by omega)]
  exact h11.1
 ·refine bA ?_;refine J0 ?_;refine aC (mw bo (lJ b t) 0 3 hB rfl rfl) rfl ?_;refine aC (qI bi [.int .i64 i] 0 hB rfl) rfl ?_;refine aC (qI bm [.int .i64 m] 0 hB rfl) rfl ?_;refine aA ?_;refine aC (qI bt [fn f cap] 0 hB rfl) rfl ?_;refine aD (I9 (λ w1 hw=>Vz hK2 hi hmm hp ok hm hA hB hw)) (λ x17 h17=>?_);refine cP (jA λ _=>bO rf cQ rf (dM _) eD rf kO) (λ _=>?_);refine aH ?_
  refine bC Tryz.results165 (λ w hw=>?_)
  refine⟨x17,rfl,⟨?_,h17.2⟩,hw.rN⟩
  rw[if_neg (by omega)]
  exact h17.1
theorem ti{K:Int->Tr}{i m prev:Int}{s:Mm}{bp bt bm bo bi:Nat}(hK:Ex b K s f cap B)(hi:i<=s.nodes.length)(hmm:m<=s.nodes.length)(hpr:prev<=9223372036854775807)(hn:(cD s.nodes m).prev=prev)(o:Bool):wM b 164 [pt bp,pt bt,pt bm,pt bo,pt bi] [.bool o] (bx bp [iv prev]::bx bt [fn f cap]::bx bm [iv m]::bx bo (lJ b t)::bx bi [iv i]::B) s (jP i m K):=by
 intro a D A w em ok hm hA hB hw0
 subst em
 refine enter Tryz.func164 Tryz.ntmps164 rfl rfl hw0 ?_
 simp only[bX]
 refine J0 ?_;refine aJ (λ x7=>?_);refine aH ?_;refine J0 ?_;refine aC (qI bp [.int .i64 prev] 0 hB rfl) rfl ?_;(refine aC (dD (by(repeat (first|exact dC _|(apply cI;focus ((conv=>{lhs;whnf});try exact rfl))));done)) rfl ?_);refine aS (cV (hc:=λ w1 hw=>xS _ _ _ w1)) (λ x10=>?_);refine cP (jA λ _=>bO rf cQ rf (dM _) eD rf kO) (λ _=>?_);refine aH ?_
 refine bC Tryz.results164 (λ w hw=>?_)
 refine⟨(sH prev _ _,[],a),rfl,⟨⟨hmm,?_⟩,ok,AS.jF.refl a⟩,hw.rI⟩
 dsimp only
 rw[hn]
 exact⟨rfl,hpr,_,_,rfl,by kernel_rfl,λ p s1 l hp=>(tv (bt:=bt) (bm:=bm) (bo:=bo) (bi:=bi) (hK.le l) (by have:=l.len;omega) (by have:=l.len;omega) hp).mr (λ y hy=>List.mem_cons_of_mem _ hy)⟩
theorem qu{K:Int->Tr}{i m p prev r:Int}{s:Mm}{bo bi bp bq ba:Nat}(hK:Yg b (λ _=>jP i m K) s f cap B)(hi:i<=s.nodes.length)(hmm:m<=s.nodes.length)(hp:p<=s.nodes.length)(hr:r<=s.nodes.length)(hn:(cD s.nodes m).prev=prev):wM b 168 [pt bo,pt bi,pt bp,pt bq,pt ba] [.int .i64 r] (bx bo (lJ b t)::bx bi [iv i]::bx bp [iv prev]::bx bq [iv p]::bx ba [fn f cap]::B) s (.node r λ nr=>.node i λ ni=>qT i m p (nr.gen==ni.gen) K):=by
 intro a D A w em ok hm hA hB hw0
 subst em
 have hK2:=hK.more (B2:=(bx bo (lJ b t)::bx bi [iv i]::bx bp [iv prev]::bx bq [iv p]::bx ba [fn f cap]::B)) (λ x hx=>by simp[hx])
 have hpr:prev<=a.mm.cs.length:=by rw[<- hn];exact(ok.mo.at m).prev
 refine enter Tryz.func168 Tryz.ntmps168 rfl rfl hw0 ?_
 simp only[bX]
 refine J0 ?_;refine aJ (λ x7=>?_);refine Rt ?_;refine dK [(0,[]),(1,[]),(2,[]),(5,[]),(6,[]),(7,[]),(3,[6,7]),(4,[]),(8,[]),(9,[]),(10,[]),(11,[])] ?_;refine aR ?_;refine bQ (i:=1) (hq:=(qI bo (lJ b t) 0 hB rfl)) (h:=?_);refine aN ?_;refine aR ?_;refine bQ (i:=6) (hq:=(qI bo (lJ b t) 0 hB rfl)) (h:=?_);refine bQ (i:=7) (hq:=(qI bi [.int .i64 i] 0 hB rfl)) (h:=?_);refine aZ (i:=3) (hq:=(Je r ok hm hA hr)) (hfire:=(λ _=>by(refine eP ?_;(repeat (first|exact aL.nil|refine aL.cons (by first|exact fI (hq:=qI bo (lJ b t) 0 hB rfl)|exact fI (hq:=qI bi [.int .i64 i] 0 hB rfl)) ?_));done))) (h:=λ x12 h12=>?_);refine oS ?_;refine aZ (i:=8) (hq:=(Je i ok hm hA hi)) (h:=λ x17 h17=>?_);refine oS ?_;refine mJ ?_;refine J7 ?_;refine J0 ?_;refine aC (mw bo (lJ b t) 0 3 hB rfl rfl) rfl ?_;refine aC (qI bp [.int .i64 prev] 0 hB rfl) rfl ?_;refine aC (qI bq [.int .i64 p] 0 hB rfl) rfl ?_;refine aA ?_;refine aC (qI ba [fn f cap] 0 hB rfl) rfl ?_;refine aD (I9 (λ w1 hw=>Jv (K:=λ _=>jP i m K) hK2 hpr hp ok hm hA hB hw)) (λ x25 h25=>?_);refine cP (jA λ _=>bO rf cQ rf (dM _) eD rf kO) (λ _=>?_);refine aH ?_
 refine bC Tryz.results168 (λ w hw=>?_)
 refine⟨x25,rfl,⟨⟨hr,hi,?_⟩,h25.2⟩,hw.rN⟩
 rw[mB,mB]
 exact W4 hmm hn h25.1
set_option maxRecDepth 100000 in
set_option maxHeartbeats 2000000 in
theorem rr{K:Int->Tr}{i m p prev:Int}{s:Mm}{bt bm bo bi bp:Nat}(ht:t.root<=9223372036854775807)(hK:Ex b K s f cap B)(hi:i<=s.nodes.length)(hmm:m<=s.nodes.length)(hp:p<=s.nodes.length)(hn:(cD s.nodes m).prev=prev):wM b 162 [pt bt,pt bm,pt bo,pt bi,pt bp] [.int .i64 p] (bx bt [fn f cap]::bx bm [iv m]::bx bo (lJ b t)::bx bi [iv i]::bx bp [iv prev]::B) s (if p=0 then K m else .node p λ np=>if bZ np then(if t.ro=true then qT i m p false K else Kj t λ r=>.node r λ nr=>.node i λ ni=>qT i m p (nr.gen==ni.gen) K) else Qc i m p K):=by
 intro a D A w em ok hm hA hB hw0
 subst em
 have hK2:=hK.more (B2:=(bx bt [fn f cap]::bx bm [iv m]::bx bo (lJ b t)::bx bi [iv i]::bx bp [iv prev]::B)) (λ x hx=>by simp[hx])
 have np:=Db ok p
 have hpr:prev<=a.mm.cs.length:=by rw[<- hn];exact(ok.mo.at m).prev
 have hAg:Yg b (λ _=>jP i m K) a.mm 164 [.pointer (some ⟨bp,0,none⟩),.pointer (some ⟨bt,0,none⟩),.pointer (some ⟨bm,0,none⟩),.pointer (some ⟨bo,0,none⟩),.pointer (some ⟨bi,0,none⟩)] (bx bt [fn f cap]::bx bm [iv m]::bx bo (lJ b t)::bx bi [iv i]::bx bp [iv prev]::B):=⟨by kernel_rfl,λ o s1 l=>(ti (t:=t) (prev:=prev) (bp:=bp) (bt:=bt) (bm:=bm) (bo:=bo) (bi:=bi) (hK.le l) (by have:=l.len;omega) (by have:=l.len;omega) (qL hm hpr) (by rw[l.nd hmm];exact hn) o).mr (λ y hy=>by
  simp only[List.mem_cons] at hy ⊢
  rcases hy with h|h|h|h|h|h<;>simp[h])⟩
 have hRt:∀x6 x8:Nat,Ex b (λ r=>.node r λ nr=>.node i λ ni=>qT i m p (nr.gen==ni.gen) K) a.mm 168 [.pointer (some ⟨bo,0,none⟩),.pointer (some ⟨bi,0,none⟩),.pointer (some ⟨bp,0,none⟩),.pointer (some ⟨x6,0,none⟩),.pointer (some ⟨x8,0,none⟩)] (bx x8 [.func (.func 164) #[] ⟨[.pointer (some ⟨bp,0,none⟩),.pointer (some ⟨bt,0,none⟩),.pointer (some ⟨bm,0,none⟩),.pointer (some ⟨bo,0,none⟩),.pointer (some ⟨bi,0,none⟩)]⟩]::bx x6 [iv p]::(bx bt [fn f cap]::bx bm [iv m]::bx bo (lJ b t)::bx bi [iv i]::bx bp [iv prev]::B)):=λ x6 x8=>⟨by kernel_rfl,λ r s1 l hr=>(qu (t:=t) (prev:=prev) (bo:=bo) (bi:=bi) (bp:=bp) (bq:=x6) (ba:=x8) (hAg.le l) (by have:=l.len;omega) (by have:=l.len;omega) (by have:=l.len;omega) hr (by rw[l.nd hmm];exact hn)).mr (λ y hy=>by
  simp only[List.mem_cons] at hy ⊢
  rcases hy with h|h|h|h|h|h<;>simp[h])⟩
 refine enter Tryz.func162 Tryz.ntmps162 rfl rfl hw0 ?_
 simp only[bX]
 refine J0 ?_;refine bI (λ x6=>?_);refine aJ (λ x7=>?_);refine Rt ?_;refine nQ ?_;refine uG ?_
 refine bB (λ c10=>?_) (λ c10=>?_)
 ·refine J0 ?_;refine aC (qI bt [fn f cap] 0 hB rfl) rfl ?_;refine aC (qI bm [.int .i64 m] 0 hB rfl) rfl ?_;refine aD (T5 hK2.1 (hK2.2 m a.mm (Mm.Le.refl _) hmm) ok hm hA hB) (λ x13 h13=>?_);refine cP (jA λ _=>bO rf cQ rf (dM _) eD rf kO) (λ _=>?_);refine aH ?_
  refine bC Tryz.results162 (λ w hw=>?_)
  refine⟨x13,rfl,⟨?_,h13.2⟩,hw.rN⟩
  rw[if_pos (by omega)]
  exact h13.1
 ·refine jV ?_;refine J0 ?_;refine aE ?_;refine aC (qI bo (lJ b t) 0 hB rfl) rfl ?_;refine bL ?_;refine aD (Je p ok hm hA hp) (λ x17 h17=>?_);refine aD (c0 (V:=.bool) (hc:=λ w1 hw=>Sw ((aB (cZ a.L) p).at_ x17.1 x17.2).nd w1)) (λ x18 h18=>?_);refine oH ?_
  refine bB (λ c19=>?_) (λ c19=>?_)
  ·refine J0 ?_;refine aC (mw bo (lJ b t) 0 3 hB rfl rfl) rfl ?_;refine aC (qI bi [.int .i64 i] 0 hB rfl) rfl ?_;refine aC (qI bm [.int .i64 m] 0 hB rfl) rfl ?_;refine bL ?_;refine aC (qI bt [fn f cap] 0 hB rfl) rfl ?_;refine aD (I9 (λ w1 hw=>Vz hK2 hi hmm hp ok hm hA hB hw)) (λ x25 h25=>?_);refine cP (jA λ _=>bO rf cQ rf (dM _) eD rf kO) (λ _=>?_);refine aH ?_
   refine bC Tryz.results162 (λ w hw=>?_)
   refine⟨x25,rfl,⟨?_,h25.2⟩,hw.rN⟩
   rw[if_neg (by omega)]
   refine⟨hp,?_⟩
   rw[mB]
   dsimp only
   rw[if_neg (λ hk=>by have h2:=h18.2 hk;rw[h2] at c19;cases c19)]
   exact h25.1
  ·refine bA ?_;refine J0 ?_;(refine aC (dD (by(repeat (first|exact dC _|(apply cI;focus ((conv=>{lhs;whnf});try exact rfl))));done)) rfl ?_);refine aS (jA λ _=>U7 (z:=.nilFunc) (by kernel_rfl) rfl) (λ x8=>?_);refine J5 ?_;refine aV ?_;refine J0 ?_;refine aE ?_;refine aE ?_;refine aC (qI bo (lJ b t) 2 hB rfl) rfl ?_;refine aH ?_
   refine bB (λ c29=>?_) (λ c29=>?_)
   ·refine J0 ?_;refine aC (mw bo (lJ b t) 0 3 hB rfl rfl) rfl ?_;refine aC (qI bp [.int .i64 prev] 0 hB rfl) rfl ?_;refine bL ?_;refine bL ?_;refine aD (I9 (λ w1 hw=>Jv (K:=λ _=>jP i m K) hAg hpr hp ok hm hA hB hw)) (λ x34 h34=>?_);refine cP (jA λ _=>bO rf cQ rf (dM _) eD rf kO) (λ _=>?_);refine aH ?_
    refine bC Tryz.results162 (λ w hw=>?_)
    refine⟨x34,rfl,⟨?_,h34.2⟩,hw.rN⟩
    rw[if_neg (by omega)]
    refine⟨hp,?_⟩
    rw[mB]
    dsimp only
    rw[if_pos (show bZ (aB (cZ a.L) p).c from h18.1 (by simpa using c19)),if_pos c29]
    exact W4 hmm hn h34.1
   ·refine Ud (λ w h=>(show SF _ _ [_,(b,fH a)] _ [_,_] _ w from(h.dG (.tail (.tail .head))).dG .head)) ?_
    refine bA ?_;refine J0 ?_;refine aC (mw bo (lJ b t) 0 3 hB rfl rfl) rfl ?_;(refine aC (dD (by(repeat (first|exact dC _|(apply cI;focus ((conv=>{lhs;whnf});try exact rfl))));done)) rfl ?_);refine aD (cM (V:=λ y:Cd×Fr×AS=>.agg ⟨y.1.cells⟩) (hs:=[(b,fH a)]) (os:=fM a) (hs':=λ y=>[(b,fH y.2.2)]) (os':=λ y=>fM y.2.2) (Fc:=λ y=>y.2.1) (A0:=bx x8 [.func (.func 164) #[] ⟨[.pointer (some ⟨bp,0,none⟩),.pointer (some ⟨bt,0,none⟩),.pointer (some ⟨bm,0,none⟩),.pointer (some ⟨bo,0,none⟩),.pointer (some ⟨bi,0,none⟩)]⟩]::bx x6 [iv p]::A) (hA:=aW.zj) (hc:=λ w1 hw=>qn (K:=λ r=>.node r λ nr=>.node i λ ni=>qT i m p (nr.gen==ni.gen) K) (B:=bx x8 [.func (.func 164) #[] ⟨[.pointer (some ⟨bp,0,none⟩),.pointer (some ⟨bt,0,none⟩),.pointer (some ⟨bm,0,none⟩),.pointer (some ⟨bo,0,none⟩),.pointer (some ⟨bi,0,none⟩)]⟩]::bx x6 [iv p]::(bx bt [fn f cap]::bx bm [iv m]::bx bo (lJ b t)::bx bi [iv i]::bx bp [iv prev]::B)) ht (hRt x6 x8) ok hm (λ f hf=>List.mem_cons_of_mem _ (List.mem_cons_of_mem _ (hA f hf))) (Uh hB) hw)) (λ x37 h37=>?_);refine cP (jA λ _=>bO rf cQ rf (dM _) eD rf kO) (λ _=>?_);refine aH ?_
    refine bC Tryz.results162 (λ w hw=>?_)
    refine⟨(x37.1,x37.2.1++[bx x8 [.func (.func 164) #[] ⟨[.pointer (some ⟨bp,0,none⟩),.pointer (some ⟨bt,0,none⟩),.pointer (some ⟨bm,0,none⟩),.pointer (some ⟨bo,0,none⟩),.pointer (some ⟨bi,0,none⟩)]⟩],bx x6 [iv p]],x37.2.2),rfl,⟨?_,h37.2.1,h37.2.2.more (λ f hf=>List.mem_append_left _ hf)⟩,hw.rI⟩
    rw[if_neg (by omega)]
    refine⟨hp,?_⟩
    rw[mB]
    dsimp only
    rw[if_pos (show bZ (aB (cZ a.L) p).c from h18.1 (by simpa using c19)),if_neg (by rw[c29];decide)]
    rw[List.append_assoc]
    exact h37.1
theorem Kk{K:Int->Tr}{i m:Int}(ht:t.root<=9223372036854775807)(hK:Ex b K a.mm f cap B)(hi:i<=a.mm.nodes.length)(hmm:m<=a.mm.nodes.length)(ok:a.Ok)(hm:a.mm.Small)(hA:∀f∈aK a.L,f∈A)(hB:∀x∈B,x∈A)(hs:SF w D [(b,fH a)] A [] (fM a) w) :
  Calls Tryz.prog 121 #[.agg ⟨lJ b t⟩,.int .i64 i,.int .i64 m,fn f cap] w (Ea b (λ c' s' B'=>kZ b (qR t i m K) a.mm c' s' B') a B D w):=by
 have nm:=Db ok m
 refine enter Tryz.func121 Tryz.ntmps121 rfl rfl hs ?_
 simp only[bX]
 refine J0 ?_;refine bI (λ x4=>?_);refine bI (λ x5=>?_);refine bI (λ x6=>?_);refine bI (λ x7=>?_);refine aJ (λ x8=>?_);refine aH ?_;refine gZ ?_;refine bL ?_;refine aD (Je m ok hm hA hmm) (λ x13 h13=>?_);refine cC ?_;refine aS (jA λ _=>U7 (z:=.int .i64 0) (by kernel_rfl) rfl) (λ x9=>?_);refine J5 ?_;refine nQ ?_;(refine aC (dD (by(repeat (first|exact dC _|(apply cI;focus ((conv=>{lhs;whnf});try exact rfl))));done)) rfl ?_);refine aS (cV (hc:=λ w1 hw=>xS _ _ _ w1)) (λ x17=>?_);refine cP (jA λ _=>bO rf cQ rf (dM _) eD rf kO) (λ _=>?_);refine aH ?_
 refine bC Tryz.results121 (λ w hw=>?_)
 refine⟨(sH (aB (cZ a.L) m).nd.prev _ _,[bx x4 (lJ b t),bx x5 [iv i],bx x6 [iv m],bx x7 [fn f cap],bx x9 [iv (aB (cZ a.L) m).nd.prev]],a),rfl,⟨⟨hmm,?_⟩,ok,(AS.jF.refl a).more (λ _ h=>(List.not_mem_nil h).elim)⟩,?_⟩
 ·rw[mB]
  refine⟨rfl,qL hm nm.prev,_,_,rfl,by kernel_rfl,λ p s1 l hp=>(rr (bt:=x7) (bm:=x6) (bo:=x4) (bi:=x5) (bp:=x9) (prev:=(aB (cZ a.L) m).nd.prev) ht (hK.le l) (by have:=l.len;omega) (by have:=l.len;omega) hp (by rw[l.nd hmm,mB];rfl)).mr (λ y hy=>?_)⟩
  simp only[List.mem_cons,List.mem_append,List.not_mem_nil,or_false] at hy ⊢
  rcases hy with h|h|h|h|h|h<;>simp[h]
 ·exact(((((hw.dG .head).dG (.tail .head)).dG (.tail .head)).dG (.tail .head)).dG (.tail .head)).rI
end
end

end Go.Proofs.YtbajmaoegmbfgaaGreat
