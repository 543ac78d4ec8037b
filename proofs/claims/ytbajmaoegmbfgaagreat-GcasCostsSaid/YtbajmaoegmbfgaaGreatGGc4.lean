/- gcas: settle. -/
import Derived.Test.YtbajmaoegmbfgaaGreatGGc2
import Derived.Test.YtbajmaoegmbfgaaGreatGWo3
import Derived.Test.YtbajmaoegmbfgaaGreatGWo7
import Derived.Test.YtbajmaoegmbfgaaGreatGTt3

set_option linter.unusedSimpArgs false
set_option linter.unusedVariables false
namespace Go.Proofs.YtbajmaoegmbfgaaGreat
section
open Go Go.RowKit Go.Ct
theorem T9{b:Nat}{i m p prev:Int}{c:Bool}{K:Int->Tr}{s s2:Mm}{cd:Cd}{B:Fr}(hmm:m<=s.nodes.length)(hn:(bH s.nodes m).prev=prev)(h:mA b (jo prev p c λ _=>jF i m K) s cd s2 B):mA b (gP i m p c K) s cd s2 B:=by
 subst hn
 unfold jo at h
 unfold gP
 split
 ·rename_i hc
  rw[if_pos hc] at h
  exact⟨hmm,h⟩
 ·rename_i hc
  rw[if_neg hc] at h
  exact⟨hmm,h⟩
section
variable{D:List Nat}{A B:Fr}{a:AS}{b:Nat}{w:World}{f:FuncId}{cap:List Value}{t:fG}
theorem m6{K:Int->Tr}{i m p:Int}{s:Mm}{bt bm bo bi:Nat}(hK:D6 b K s f cap B)(hi:i<=s.nodes.length)(hmm:m<=s.nodes.length)(hp:p<=s.nodes.length):vB b 165 [pt bt,pt bm,pt bo,pt bi] [.int .i64 p] (bx bt [fn f cap]::bx bm [iv m]::bx bo (lE b t)::bx bi [iv i]::B) s (if p=0 then K m else Bm i m p K):=by
 intro a D A w em ok hm hA hB hw0
 subst em
 have hK2:=hK.more (B2:=(bx bt [fn f cap]::bx bm [iv m]::bx bo (lE b t)::bx bi [iv i]::B)) (λ x hx=>by simp[hx])
 refine enter Tryz.func165 Tryz.ntmps165 rfl rfl hw0 ?_
 simp only[cD]
 refine J0 ?_;refine aJ (λ x6=>?_);refine aH ?_;refine kX ?_;refine sH ?_
 refine aZ (λ c8=>?_) (λ c8=>?_)
 ·refine J0 ?_;refine aC (qE bt [fn f cap] 0 hB rfl) rfl ?_;refine aC (qE bm [.int .i64 m] 0 hB rfl) rfl ?_;refine aD (Rm hK2.1 (hK2.2 m a.mm (Mm.Le.refl _) hmm) ok hm hA hB) (λ x11 h11=>?_);refine cO (jE λ _=>bO rf cX rf (dK _) eP rf kL) (λ _=>?_);refine aH ?_
  refine aY Tryz.results165 (λ w hw=>?_)
  refine⟨x11,rfl,⟨?_,h11.2⟩,hw.rN⟩
  rw[if_pos (by omega)]
  exact h11.1
 ·refine aX ?_;refine J0 ?_;refine aC (gm bo (lE b t) 0 3 hB rfl rfl) rfl ?_;refine aC (qE bi [.int .i64 i] 0 hB rfl) rfl ?_;refine aC (qE bm [.int .i64 m] 0 hB rfl) rfl ?_;refine aA ?_;refine aC (qE bt [fn f cap] 0 hB rfl) rfl ?_;refine aD (H2 (λ w1 hw=>Tu hK2 hi hmm hp ok hm hA hB hw)) (λ x17 h17=>?_);refine cO (jE λ _=>bO rf cX rf (dK _) eP rf kL) (λ _=>?_);refine aH ?_
  refine aY Tryz.results165 (λ w hw=>?_)
  refine⟨x17,rfl,⟨?_,h17.2⟩,hw.rN⟩
  rw[if_neg (by omega)]
  exact h17.1
theorem pq{K:Int->Tr}{i m prev:Int}{s:Mm}{bp bt bm bo bi:Nat}(hK:D6 b K s f cap B)(hi:i<=s.nodes.length)(hmm:m<=s.nodes.length)(hpr:prev<=9223372036854775807)(hn:(bH s.nodes m).prev=prev)(o:Bool):vB b 164 [pt bp,pt bt,pt bm,pt bo,pt bi] [.bool o] (bx bp [iv prev]::bx bt [fn f cap]::bx bm [iv m]::bx bo (lE b t)::bx bi [iv i]::B) s (jF i m K):=by
 intro a D A w em ok hm hA hB hw0
 subst em
 refine enter Tryz.func164 Tryz.ntmps164 rfl rfl hw0 ?_
 simp only[cD]
 refine J0 ?_;refine aJ (λ x7=>?_);refine aH ?_;refine J0 ?_;refine aC (qE bp [.int .i64 prev] 0 hB rfl) rfl ?_;(refine aC (dB (by(repeat (first|exact dC _|(apply cH;focus ((conv=>{lhs;whnf});try exact rfl))));done)) rfl ?_);refine aN (cV (hc:=λ w1 hw=>wQ _ _ _ w1)) (λ x10=>?_);refine cO (jE λ _=>bO rf cX rf (dK _) eP rf kL) (λ _=>?_);refine aH ?_
 refine aY Tryz.results164 (λ w hw=>?_)
 refine⟨(sU prev _ _,[],a),rfl,⟨⟨hmm,?_⟩,ok,AS.iP.refl a⟩,hw.rI⟩
 dsimp only
 rw[hn]
 exact⟨rfl,hpr,_,_,rfl,by kernel_rfl,λ p s1 l hp=>(m6 (bt:=bt) (bm:=bm) (bo:=bo) (bi:=bi) (hK.le l) (by have:=l.len;omega) (by have:=l.len;omega) hp).mr (λ y hy=>List.mem_cons_of_mem _ hy)⟩
theorem od{K:Int->Tr}{i m p prev r:Int}{s:Mm}{bo bi bp bq ba:Nat}(hK:Ww b (λ _=>jF i m K) s f cap B)(hi:i<=s.nodes.length)(hmm:m<=s.nodes.length)(hp:p<=s.nodes.length)(hr:r<=s.nodes.length)(hn:(bH s.nodes m).prev=prev):vB b 168 [pt bo,pt bi,pt bp,pt bq,pt ba] [.int .i64 r] (bx bo (lE b t)::bx bi [iv i]::bx bp [iv prev]::bx bq [iv p]::bx ba [fn f cap]::B) s (.node r λ nr=>.node i λ ni=>gP i m p (nr.gen==ni.gen) K):=by
 intro a D A w em ok hm hA hB hw0
 subst em
 have hK2:=hK.more (B2:=(bx bo (lE b t)::bx bi [iv i]::bx bp [iv prev]::bx bq [iv p]::bx ba [fn f cap]::B)) (λ x hx=>by simp[hx])
 have hpr:prev<=a.mm.cs.length:=by rw[<- hn];exact(ok.mo.at m).prev
 refine enter Tryz.func168 Tryz.ntmps168 rfl rfl hw0 ?_
 simp only[cD]
 refine J0 ?_;refine aJ (λ x7=>?_);refine Ru ?_;refine dZ [(0,[]),(1,[]),(2,[]),(5,[]),(6,[]),(7,[]),(3,[6,7]),(4,[]),(8,[]),(9,[]),(10,[]),(11,[])] ?_;refine aU ?_;refine bU (i:=1) (hq:=(qE bo (lE b t) 0 hB rfl)) (h:=?_);refine aT ?_;refine aU ?_;refine bU (i:=6) (hq:=(qE bo (lE b t) 0 hB rfl)) (h:=?_);refine bU (i:=7) (hq:=(qE bi [.int .i64 i] 0 hB rfl)) (h:=?_);refine bB (i:=3) (hq:=(Im r ok hm hA hr)) (hfire:=(λ _=>by(refine fZ ?_;(repeat (first|exact aK.nil|refine aK.cons (by first|exact fK (hq:=qE bo (lE b t) 0 hB rfl)|exact fK (hq:=qE bi [.int .i64 i] 0 hB rfl)) ?_));done))) (h:=λ x12 h12=>?_);refine kZ ?_;refine bB (i:=8) (hq:=(Im i ok hm hA hi)) (h:=λ x17 h17=>?_);refine kZ ?_;refine mR ?_;refine J7 ?_;refine J0 ?_;refine aC (gm bo (lE b t) 0 3 hB rfl rfl) rfl ?_;refine aC (qE bp [.int .i64 prev] 0 hB rfl) rfl ?_;refine aC (qE bq [.int .i64 p] 0 hB rfl) rfl ?_;refine aA ?_;refine aC (qE ba [fn f cap] 0 hB rfl) rfl ?_;refine aD (H2 (λ w1 hw=>I1 (K:=λ _=>jF i m K) hK2 hpr hp ok hm hA hB hw)) (λ x25 h25=>?_);refine cO (jE λ _=>bO rf cX rf (dK _) eP rf kL) (λ _=>?_);refine aH ?_
 refine aY Tryz.results168 (λ w hw=>?_)
 refine⟨x25,rfl,⟨⟨hr,hi,?_⟩,h25.2⟩,hw.rN⟩
 rw[kU,kU]
 exact T9 hmm hn h25.1
set_option maxRecDepth 100000 in
set_option maxHeartbeats 2000000 in
theorem o4{K:Int->Tr}{i m p prev:Int}{s:Mm}{bt bm bo bi bp:Nat}(ht:t.root<=9223372036854775807)(hK:D6 b K s f cap B)(hi:i<=s.nodes.length)(hmm:m<=s.nodes.length)(hp:p<=s.nodes.length)(hn:(bH s.nodes m).prev=prev):vB b 162 [pt bt,pt bm,pt bo,pt bi,pt bp] [.int .i64 p] (bx bt [fn f cap]::bx bm [iv m]::bx bo (lE b t)::bx bi [iv i]::bx bp [iv prev]::B) s (if p=0 then K m else .node p λ np=>if bV np then(if t.ro=true then gP i m p false K else yK t λ r=>.node r λ nr=>.node i λ ni=>gP i m p (nr.gen==ni.gen) K) else Bm i m p K):=by
 intro a D A w em ok hm hA hB hw0
 subst em
 have hK2:=hK.more (B2:=(bx bt [fn f cap]::bx bm [iv m]::bx bo (lE b t)::bx bi [iv i]::bx bp [iv prev]::B)) (λ x hx=>by simp[hx])
 have np:=Df ok p
 have hpr:prev<=a.mm.cs.length:=by rw[<- hn];exact(ok.mo.at m).prev
 have hAg:Ww b (λ _=>jF i m K) a.mm 164 [.pointer (some ⟨bp,0,none⟩),.pointer (some ⟨bt,0,none⟩),.pointer (some ⟨bm,0,none⟩),.pointer (some ⟨bo,0,none⟩),.pointer (some ⟨bi,0,none⟩)] (bx bt [fn f cap]::bx bm [iv m]::bx bo (lE b t)::bx bi [iv i]::bx bp [iv prev]::B):=⟨by kernel_rfl,λ o s1 l=>(pq (t:=t) (prev:=prev) (bp:=bp) (bt:=bt) (bm:=bm) (bo:=bo) (bi:=bi) (hK.le l) (by have:=l.len;omega) (by have:=l.len;omega) (qJ hm hpr) (by rw[l.nd hmm];exact hn) o).mr (λ y hy=>by
  simp only[List.mem_cons] at hy ⊢
  rcases hy with h|h|h|h|h|h<;>simp[h])⟩
 have hRt:∀x6 x8:Nat,D6 b (λ r=>.node r λ nr=>.node i λ ni=>gP i m p (nr.gen==ni.gen) K) a.mm 168 [.pointer (some ⟨bo,0,none⟩),.pointer (some ⟨bi,0,none⟩),.pointer (some ⟨bp,0,none⟩),.pointer (some ⟨x6,0,none⟩),.pointer (some ⟨x8,0,none⟩)] (bx x8 [.func (.func 164) #[] ⟨[.pointer (some ⟨bp,0,none⟩),.pointer (some ⟨bt,0,none⟩),.pointer (some ⟨bm,0,none⟩),.pointer (some ⟨bo,0,none⟩),.pointer (some ⟨bi,0,none⟩)]⟩]::bx x6 [iv p]::(bx bt [fn f cap]::bx bm [iv m]::bx bo (lE b t)::bx bi [iv i]::bx bp [iv prev]::B)):=λ x6 x8=>⟨by kernel_rfl,λ r s1 l hr=>(od (t:=t) (prev:=prev) (bo:=bo) (bi:=bi) (bp:=bp) (bq:=x6) (ba:=x8) (hAg.le l) (by have:=l.len;omega) (by have:=l.len;omega) (by have:=l.len;omega) hr (by rw[l.nd hmm];exact hn)).mr (λ y hy=>by
  simp only[List.mem_cons] at hy ⊢
  rcases hy with h|h|h|h|h|h<;>simp[h])⟩
 refine enter Tryz.func162 Tryz.ntmps162 rfl rfl hw0 ?_
 simp only[cD]
 refine J0 ?_;refine bK (λ x6=>?_);refine aJ (λ x7=>?_);refine Ru ?_;refine oC ?_;refine sH ?_
 refine aZ (λ c10=>?_) (λ c10=>?_)
 ·refine J0 ?_;refine aC (qE bt [fn f cap] 0 hB rfl) rfl ?_;refine aC (qE bm [.int .i64 m] 0 hB rfl) rfl ?_;refine aD (Rm hK2.1 (hK2.2 m a.mm (Mm.Le.refl _) hmm) ok hm hA hB) (λ x13 h13=>?_);refine cO (jE λ _=>bO rf cX rf (dK _) eP rf kL) (λ _=>?_);refine aH ?_
  refine aY Tryz.results162 (λ w hw=>?_)
  refine⟨x13,rfl,⟨?_,h13.2⟩,hw.rN⟩
  rw[if_pos (by omega)]
  exact h13.1
 ·refine kK ?_;refine J0 ?_;refine aF ?_;refine aC (qE bo (lE b t) 0 hB rfl) rfl ?_;refine bP ?_;refine aD (Im p ok hm hA hp) (λ x17 h17=>?_);refine aD (c0 (V:=.bool) (hc:=λ w1 hw=>Qy ((aB (bS a.L) p).at_ x17.1 x17.2).nd w1)) (λ x18 h18=>?_);refine oU ?_
  refine aZ (λ c19=>?_) (λ c19=>?_)
  ·refine J0 ?_;refine aC (gm bo (lE b t) 0 3 hB rfl rfl) rfl ?_;refine aC (qE bi [.int .i64 i] 0 hB rfl) rfl ?_;refine aC (qE bm [.int .i64 m] 0 hB rfl) rfl ?_;refine bP ?_;refine aC (qE bt [fn f cap] 0 hB rfl) rfl ?_;refine aD (H2 (λ w1 hw=>Tu hK2 hi hmm hp ok hm hA hB hw)) (λ x25 h25=>?_);refine cO (jE λ _=>bO rf cX rf (dK _) eP rf kL) (λ _=>?_);refine aH ?_
   refine aY Tryz.results162 (λ w hw=>?_)
   refine⟨x25,rfl,⟨?_,h25.2⟩,hw.rN⟩
   rw[if_neg (by omega)]
   refine⟨hp,?_⟩
   rw[kU]
   dsimp only
   rw[if_neg (λ hk=>by have h2:=h18.2 hk;rw[h2] at c19;cases c19)]
   exact h25.1
  ·refine aX ?_;refine J0 ?_;(refine aC (dB (by(repeat (first|exact dC _|(apply cH;focus ((conv=>{lhs;whnf});try exact rfl))));done)) rfl ?_);refine aN (jE λ _=>U9 (z:=.nilFunc) (by kernel_rfl) rfl) (λ x8=>?_);refine J5 ?_;refine aS ?_;refine J0 ?_;refine aF ?_;refine aF ?_;refine aC (qE bo (lE b t) 2 hB rfl) rfl ?_;refine aH ?_
   refine aZ (λ c29=>?_) (λ c29=>?_)
   ·refine J0 ?_;refine aC (gm bo (lE b t) 0 3 hB rfl rfl) rfl ?_;refine aC (qE bp [.int .i64 prev] 0 hB rfl) rfl ?_;refine bP ?_;refine bP ?_;refine aD (H2 (λ w1 hw=>I1 (K:=λ _=>jF i m K) hAg hpr hp ok hm hA hB hw)) (λ x34 h34=>?_);refine cO (jE λ _=>bO rf cX rf (dK _) eP rf kL) (λ _=>?_);refine aH ?_
    refine aY Tryz.results162 (λ w hw=>?_)
    refine⟨x34,rfl,⟨?_,h34.2⟩,hw.rN⟩
    rw[if_neg (by omega)]
    refine⟨hp,?_⟩
    rw[kU]
    dsimp only
    rw[if_pos (show bV (aB (bS a.L) p).c from h18.1 (by simpa using c19)),if_pos c29]
    exact T9 hmm hn h34.1
   ·refine ee (λ w h=>(show SF _ _ [_,(b,fI a)] _ [_,_] _ w from(h.dF (.tail (.tail .head))).dF .head)) ?_
    refine aX ?_;refine J0 ?_;refine aC (gm bo (lE b t) 0 3 hB rfl rfl) rfl ?_;(refine aC (dB (by(repeat (first|exact dC _|(apply cH;focus ((conv=>{lhs;whnf});try exact rfl))));done)) rfl ?_);refine aD (cM (V:=λ y:Cd×Fr×AS=>.agg ⟨y.1.cells⟩) (hs:=[(b,fI a)]) (os:=fQ a) (hs':=λ y=>[(b,fI y.2.2)]) (os':=λ y=>fQ y.2.2) (Fc:=λ y=>y.2.1) (A0:=bx x8 [.func (.func 164) #[] ⟨[.pointer (some ⟨bp,0,none⟩),.pointer (some ⟨bt,0,none⟩),.pointer (some ⟨bm,0,none⟩),.pointer (some ⟨bo,0,none⟩),.pointer (some ⟨bi,0,none⟩)]⟩]::bx x6 [iv p]::A) (hA:=bE.v8) (hc:=λ w1 hw=>mu (K:=λ r=>.node r λ nr=>.node i λ ni=>gP i m p (nr.gen==ni.gen) K) (B:=bx x8 [.func (.func 164) #[] ⟨[.pointer (some ⟨bp,0,none⟩),.pointer (some ⟨bt,0,none⟩),.pointer (some ⟨bm,0,none⟩),.pointer (some ⟨bo,0,none⟩),.pointer (some ⟨bi,0,none⟩)]⟩]::bx x6 [iv p]::(bx bt [fn f cap]::bx bm [iv m]::bx bo (lE b t)::bx bi [iv i]::bx bp [iv prev]::B)) ht (hRt x6 x8) ok hm (λ f hf=>List.mem_cons_of_mem _ (List.mem_cons_of_mem _ (hA f hf))) (Sh hB) hw)) (λ x37 h37=>?_);refine cO (jE λ _=>bO rf cX rf (dK _) eP rf kL) (λ _=>?_);refine aH ?_
    refine aY Tryz.results162 (λ w hw=>?_)
    refine⟨(x37.1,x37.2.1++[bx x8 [.func (.func 164) #[] ⟨[.pointer (some ⟨bp,0,none⟩),.pointer (some ⟨bt,0,none⟩),.pointer (some ⟨bm,0,none⟩),.pointer (some ⟨bo,0,none⟩),.pointer (some ⟨bi,0,none⟩)]⟩],bx x6 [iv p]],x37.2.2),rfl,⟨?_,h37.2.1,h37.2.2.more (λ f hf=>List.mem_append_left _ hf)⟩,hw.rI⟩
    rw[if_neg (by omega)]
    refine⟨hp,?_⟩
    rw[kU]
    dsimp only
    rw[if_pos (show bV (aB (bS a.L) p).c from h18.1 (by simpa using c19)),if_neg (by rw[c29];decide)]
    rw[List.append_assoc]
    exact h37.1
theorem I2{K:Int->Tr}{i m:Int}(ht:t.root<=9223372036854775807)(hK:D6 b K a.mm f cap B)(hi:i<=a.mm.nodes.length)(hmm:m<=a.mm.nodes.length)(ok:a.Ok)(hm:a.mm.Small)(hA:∀f∈aM a.L,f∈A)(hB:∀x∈B,x∈A)(hs:SF w D [(b,fI a)] A [] (fQ a) w) :
  Calls Tryz.prog 121 #[.agg ⟨lE b t⟩,.int .i64 i,.int .i64 m,fn f cap] w (Dj b (λ c' s' B'=>mA b (nP t i m K) a.mm c' s' B') a B D w):=by
 have nm:=Df ok m
 refine enter Tryz.func121 Tryz.ntmps121 rfl rfl hs ?_
 simp only[cD]
 refine J0 ?_;refine bK (λ x4=>?_);refine bK (λ x5=>?_);refine bK (λ x6=>?_);refine bK (λ x7=>?_);refine aJ (λ x8=>?_);refine aH ?_;refine hZ ?_;refine bP ?_;refine aD (Im m ok hm hA hmm) (λ x13 h13=>?_);refine bZ ?_;refine aN (jE λ _=>U9 (z:=.int .i64 0) (by kernel_rfl) rfl) (λ x9=>?_);refine J5 ?_;refine oC ?_;(refine aC (dB (by(repeat (first|exact dC _|(apply cH;focus ((conv=>{lhs;whnf});try exact rfl))));done)) rfl ?_);refine aN (cV (hc:=λ w1 hw=>wQ _ _ _ w1)) (λ x17=>?_);refine cO (jE λ _=>bO rf cX rf (dK _) eP rf kL) (λ _=>?_);refine aH ?_
 refine aY Tryz.results121 (λ w hw=>?_)
 refine⟨(sU (aB (bS a.L) m).nd.prev _ _,[bx x4 (lE b t),bx x5 [iv i],bx x6 [iv m],bx x7 [fn f cap],bx x9 [iv (aB (bS a.L) m).nd.prev]],a),rfl,⟨⟨hmm,?_⟩,ok,(AS.iP.refl a).more (λ _ h=>(List.not_mem_nil h).elim)⟩,?_⟩
 ·rw[kU]
  refine⟨rfl,qJ hm nm.prev,_,_,rfl,by kernel_rfl,λ p s1 l hp=>(o4 (bt:=x7) (bm:=x6) (bo:=x4) (bi:=x5) (bp:=x9) (prev:=(aB (bS a.L) m).nd.prev) ht (hK.le l) (by have:=l.len;omega) (by have:=l.len;omega) hp (by rw[l.nd hmm,kU];rfl)).mr (λ y hy=>?_)⟩
  simp only[List.mem_cons,List.mem_append,List.not_mem_nil,or_false] at hy ⊢
  rcases hy with h|h|h|h|h|h<;>simp[h]
 ·exact(((((hw.dF .head).dF (.tail .head)).dF (.tail .head)).dF (.tail .head)).dF (.tail .head)).rI
end
end

/- gcas: Read, Swap. -/
section
open Go Go.RowKit Go.Ct
section
variable{D:List Nat}{A B:Fr}{a:AS}{b:Nat}{w:World}{f:FuncId}{cap:List Value}{t:fG}
theorem gi{K:Int->Tr}{i m:Int}{s:Mm}{bt bo bi:Nat}(ht:t.root<=9223372036854775807)(hK:D6 b K s f cap B)(hi:i<=s.nodes.length)(hmm:m<=s.nodes.length):vB b 131 [pt bo,pt bi,pt bt] [.int .i64 m] (bx bo (lE b t)::bx bi [iv i]::bx bt [fn f cap]::B) s (nP t i m K):=by
 intro a D A w em ok hm hA hB hw0
 subst em
 have hK2:=hK.more (B2:=(bx bo (lE b t)::bx bi [iv i]::bx bt [fn f cap]::B)) (λ x hx=>by simp[hx])
 refine enter Tryz.func131 Tryz.ntmps131 rfl rfl hw0 ?_
 simp only[cD]
 refine J0 ?_;refine aJ (λ x5=>?_);refine aH ?_;refine J0 ?_;refine aC (gm bo (lE b t) 0 3 hB rfl rfl) rfl ?_;refine aC (qE bi [.int .i64 i] 0 hB rfl) rfl ?_;refine aA ?_;refine aC (qE bt [fn f cap] 0 hB rfl) rfl ?_;refine aD (H2 (λ w1 hw=>I2 ht hK2 hi hmm ok hm hA hB hw)) (λ x10 h10=>?_);refine cO (jE λ _=>bO rf cX rf (dK _) eP rf kL) (λ _=>?_);refine aH ?_
 refine aY Tryz.results131 (λ w hw=>?_)
 exact⟨x10,rfl,h10,hw.rN⟩
theorem n0{K:Int->Tr}{i:Int}(ht:t.root<=9223372036854775807)(hK:D6 b K a.mm f cap B)(hi:i<=a.mm.nodes.length)(ok:a.Ok)(hm:a.mm.Small)(hA:∀f∈aM a.L,f∈A)(hB:∀x∈B,x∈A)(hs:SF w D [(b,fI a)] A [] (fQ a) w) :
  Calls Tryz.prog 88 #[.agg ⟨lE b t⟩,.int .i64 i,fn f cap] w (Dj b (λ c' s' B'=>mA b (jR t i K) a.mm c' s' B') a B D w):=by
 have ni:=Df ok i
 refine enter Tryz.func88 Tryz.ntmps88 rfl rfl hs ?_
 simp only[cD]
 refine J0 ?_;refine bK (λ x3=>?_);refine bK (λ x4=>?_);refine bK (λ x5=>?_);refine aJ (λ x6=>?_);refine aH ?_;refine hZ ?_;refine bP ?_;refine aD (Im i ok hm hA hi) (λ x10 h10=>?_);refine bZ ?_;(refine aC (dB (by(repeat (first|exact dC _|(apply cH;focus ((conv=>{lhs;whnf});try exact rfl))));done)) rfl ?_);refine aN (cV (hc:=λ w1 hw=>wQ _ _ _ w1)) (λ x13=>?_);refine cO (jE λ _=>bO rf cX rf (dK _) eP rf kL) (λ _=>?_);refine aH ?_
 refine aY Tryz.results88 (λ w hw=>?_)
 refine⟨(sU (aB (bS a.L) i).nd.main _ _,[bx x3 (lE b t),bx x4 [iv i],bx x5 [fn f cap]],a),rfl,⟨⟨hi,?_⟩,ok,(AS.iP.refl a).more (λ _ h=>(List.not_mem_nil h).elim)⟩,?_⟩
 ·rw[kU]
  exact⟨rfl,qJ hm ni.main,_,_,rfl,by kernel_rfl,λ m s1 l hmm=>gi (bo:=x3) (bi:=x4) (bt:=x5) ht (hK.le l) (by have:=l.len;omega) hmm⟩
 ·exact(((hw.dF (.tail .head)).dF (.tail .head)).dF (.tail .head)).rI
theorem b9{K:Bool->Tr}{m n:Int}{s:Mm}{bt bn:Nat}(hK:Ww b K s f cap B):vB b 122 [pt bt,pt bn] [.int .i64 m] (bx bt [fn f cap]::bx bn [iv n]::B) s (K (m==n)):=by
 intro a D A w em ok hm hA hB hw0
 subst em
 have hK2:=hK.more (B2:=(bx bt [fn f cap]::bx bn [iv n]::B)) (λ x hx=>by simp[hx])
 refine enter Tryz.func122 Tryz.ntmps122 rfl rfl hw0 ?_
 simp only[cD]
 refine J0 ?_;refine aJ (λ x4=>?_);refine aH ?_;refine J0 ?_;refine aC (qE bt [fn f cap] 0 hB rfl) rfl ?_;refine aA ?_;refine aC (qE bn [.int .i64 n] 0 hB rfl) rfl ?_;refine lK ?_;refine aD (Rm hK2.1 (hK2.2 (m==n) a.mm (Mm.Le.refl _)) ok hm hA hB) (λ x9 h9=>?_);refine cO (jE λ _=>bO rf cX rf (dK _) eP rf kL) (λ _=>?_);refine aH ?_
 refine aY Tryz.results122 (λ w hw=>?_)
 exact⟨x9,rfl,h9,hw.rN⟩
theorem Y6{K:Bool->Tr}{i n:Int}{s:Mm}{bt bo bi bn:Nat}(ht:t.root<=9223372036854775807)(hK:Ww b K s f cap B)(hi:i<=s.nodes.length)(hnn:n<=s.nodes.length)(o:Bool):vB b 120 [pt bt,pt bo,pt bi,pt bn] [.bool o] (bx bt [fn f cap]::bx bo (lE b t)::bx bi [iv i]::bx bn [iv n]::B) s (if o=true then nP t i n λ m=>K (m==n) else K false):=by
 intro a D A w em ok hm hA hB hw0
 subst em
 have hK2:=hK.more (B2:=(bx bt [fn f cap]::bx bo (lE b t)::bx bi [iv i]::bx bn [iv n]::B)) (λ x hx=>by simp[hx])
 have hT:D6 b (λ m=>K (m==n)) a.mm 122 [.pointer (some ⟨bt,0,none⟩),.pointer (some ⟨bn,0,none⟩)] (bx bt [fn f cap]::bx bo (lE b t)::bx bi [iv i]::bx bn [iv n]::B):=⟨by kernel_rfl,λ m s1 l hv=>(b9 (bt:=bt) (bn:=bn) (hK.le l)).mr (λ y hy=>by
  simp only[List.mem_cons] at hy ⊢
  rcases hy with h|h|h<;>simp[h])⟩
 refine enter Tryz.func120 Tryz.ntmps120 rfl rfl hw0 ?_
 simp only[cD]
 refine J0 ?_;refine aJ (λ x6=>?_);refine aH ?_;refine kX ?_;refine oU ?_
 refine aZ (λ c8=>?_) (λ c8=>?_)
 ·refine J0 ?_;refine aC (qE bt [fn f cap] 0 hB rfl) rfl ?_;refine aD (Rm hK2.1 (hK2.2 false a.mm (Mm.Le.refl _)) ok hm hA hB) (λ x10 h10=>?_);refine cO (jE λ _=>bO rf cX rf (dK _) eP rf kL) (λ _=>?_);refine aH ?_
  refine aY Tryz.results120 (λ w hw=>?_)
  refine⟨x10,rfl,⟨?_,h10.2⟩,hw.rN⟩
  rw[if_neg (by rw[show o=false by simpa using c8];decide)]
  exact h10.1
 ·refine aX ?_;refine J0 ?_;refine aC (gm bo (lE b t) 0 3 hB rfl rfl) rfl ?_;refine aC (qE bi [.int .i64 i] 0 hB rfl) rfl ?_;refine aC (qE bn [.int .i64 n] 0 hB rfl) rfl ?_;(refine aC (dB (by(repeat (first|exact dC _|(apply cH;focus ((conv=>{lhs;whnf});try exact rfl))));done)) rfl ?_);refine aD (H2 (λ w1 hw=>I2 ht hT hi hnn ok hm hA hB hw)) (λ x15 h15=>?_);refine cO (jE λ _=>bO rf cX rf (dK _) eP rf kL) (λ _=>?_);refine aH ?_
  refine aY Tryz.results120 (λ w hw=>?_)
  refine⟨x15,rfl,⟨?_,h15.2⟩,hw.rN⟩
  rw[if_pos (by simpa using c8)]
  exact h15.1
theorem pi{K:Bool->Tr}{i bJ n:Int}(ht:t.root<=9223372036854775807)(hK:Ww b K a.mm f cap B)(hi:i<=a.mm.nodes.length)(hnn:n<=a.mm.nodes.length)(ok:a.Ok)(hm:a.mm.Small)(hA:∀f∈aM a.L,f∈A)(hB:∀x∈B,x∈A)(hs:SF w D [(b,fI a)] A [] (fQ a) w) :
  Calls Tryz.prog 75 #[.agg ⟨lE b t⟩,.int .i64 i,.int .i64 bJ,.int .i64 n,fn f cap] w (Dj b (λ c' s' B'=>mA b (jD t i bJ n K) a.mm c' s' B') a B D w):=by
 have ni:=Df ok i
 refine enter Tryz.func75 Tryz.ntmps75 rfl rfl hs ?_
 simp only[cD]
 refine J0 ?_;refine bK (λ x5=>?_);refine bK (λ x6=>?_);refine bK (λ x8=>?_);refine bK (λ x9=>?_);refine aJ (λ x10=>?_);refine Ru ?_;refine dZ [(0,[]),(1,[]),(2,[]),(5,[]),(6,[]),(7,[]),(3,[6]),(4,[]),(8,[]),(9,[])] ?_;refine mI ?_;refine bN ?_;refine aT ?_;refine bN ?_;(refine cI (i:=7) (hq:=(dB (by(repeat (first|exact dC _|(apply cH;focus ((conv=>{lhs;whnf});try exact rfl))));done))) (h:=?_));refine bB (i:=3) (hq:=(Im i ok hm hA hi)) (h:=λ x14 h14=>?_);refine kZ ?_;refine cL (i:=8) (hq:=(cV (hc:=λ w1 hw=>yT _ _ _ _ _ w1))) (h:=λ x19=>?_);refine kF (i:=9) (hq:=(jE λ _=>bO rf cX rf (dK _) eP rf kL)) (h:=λ _=>?_);refine eJ ?_
 refine aY Tryz.results75 (λ w hw=>?_)
 refine⟨(yF (aB (bS a.L) i).nd.main bJ n _ _,[bx x5 (lE b t),bx x6 [iv i],bx x8 [iv n],bx x9 [fn f cap]],a),rfl,⟨⟨hi,?_⟩,ok,(AS.iP.refl a).more (λ _ h=>(List.not_mem_nil h).elim)⟩,?_⟩
 ·rw[kU]
  refine⟨rfl,qJ hm ni.main,hnn,_,_,rfl,by kernel_rfl,λ o s1 l=>(Y6 (bt:=x9) (bo:=x5) (bi:=x6) (bn:=x8) ht (hK.le l) (by have:=l.len;omega) (by have:=l.len;omega) o).mr (λ y hy=>?_)⟩
  simp only[List.mem_cons,List.mem_append,List.not_mem_nil,or_false] at hy ⊢
  rcases hy with h|h|h|h|h<;>simp[h]
 ·exact((((hw.dF (.tail .head)).dF (.tail .head)).dF (.tail .head)).dF (.tail .head)).rI
end
end

/- root: decide. -/
end Go.Proofs.YtbajmaoegmbfgaaGreat
namespace Go.Ct
section
open Go Go.RowKit
theorem bC.pre{P:Program}{S:List (Nat×Value)}{G G2:World->Prop}{o:Oper}{X:Type}{V:X->Value}{G':X->World->Prop}(h:∀w,G w->G2 w)(hl:bC P S G2 o X V G'):bC P S G o X V G':=⟨λ w hw=>hl.run w (h w hw)⟩
end
end Go.Ct
namespace Go.Proofs.YtbajmaoegmbfgaaGreat
section
open Go Go.RowKit Go.Ct
section
variable{D:List Nat}{A B:Fr}{a:AS}{b:Nat}{w:World}{f:FuncId}{cap:List Value}{t:fG}
end
end

/- gcas, root: the tasks. -/
section
open Go Go.RowKit Go.Ct
theorem qF.app{b:Nat}{p:Tr×Mm}{a:AS}{B B1 F:Fr}{c:Cd}{a':AS}(h:qF b p a (B1++B) (c,F,a')):qF b p a B (c,F++B1,a'):=by
 obtain⟨⟨h1,h2⟩,h3,h4⟩:=h
 refine⟨⟨?_,h2⟩,h3,h4.more λ f hf=>List.mem_append_left _ hf⟩
 simp only at h1 ⊢
 rw[List.append_assoc]
 exact h1
section
variable{D:List Nat}{A B:Fr}{a:AS}{b:Nat}{w:World}{f:FuncId}{cap:List Value}{t:fG}
theorem Jd{t:Tr}{i m:Nat}(ht:bT t i m)(h:Th0 b t a.mm f cap B)(ok:a.Ok)(hm:a.mm.Small)(hA:∀f∈aM a.L,f∈A)(hB:∀x∈B,x∈A)(hs:SF w D [(b,fI a)] A [] (fQ a) w) :
  Calls Tryz.prog 73 #[.iface 42 (.pointer (some ⟨b,0,none⟩)),.func (.func f) #[] ⟨cap⟩] w λ e w'=>∃x:Nat×Cd×Fr×AS,e=.returned (.pointer (some ⟨x.1,0,none⟩))/\(qF b (Ct.dY t a.mm) a B x.2/\eK (Ct.dY t a.mm).1=true)/\SF w D ([(b,fI x.2.2.2)]++[(x.1,tO b x.2.1 0)]) [] x.2.2.1 (fQ x.2.2.2++[]) w' :=
 (a9 ht h ok hm hA hB hs).mono λ _ _ ⟨x,e,h,hw⟩=>⟨x,e,h,by rw[List.append_nil];exact hw.perm (List.Perm.swap _ _ _) (List.Perm.refl _)⟩
theorem xo{s:Mm}(v:Int):zC b 89 [] [.int .i64 v] B s (λ c' s' B'=>mA b (.done (gG v false)) s c' s' B'):=by
 intro a D A w em ok hm hA hB hw0
 subst em
 refine enter Tryz.func89 Tryz.ntmps89 rfl rfl hw0 ?_
 simp only[cD]
 refine J0 ?_;refine aJ (λ x2=>?_);refine aH ?_;refine J2 ?_;refine bM ?_;refine aN (cV (hc:=λ w1 hw=>U5 (gG v false) w1)) (λ x5=>?_);refine J5 ?_
 refine aY Tryz.results89 (λ w hw=>?_)
 exact⟨(sN (gG v false),[],a),rfl,⟨⟨rfl,rfl⟩,ok,AS.iP.refl a⟩,hw.rI⟩
theorem xn{s:Mm}(v:Bool):zC b 76 [] [.bool v] B s (λ c' s' B'=>mA b (.done (gG 0 v)) s c' s' B'):=by
 intro a D A w em ok hm hA hB hw0
 subst em
 refine enter Tryz.func76 Tryz.ntmps76 rfl rfl hw0 ?_
 simp only[cD]
 refine J0 ?_;refine aJ (λ x2=>?_);refine aH ?_;refine J2 ?_;refine bM ?_;refine aN (cV (hc:=λ w1 hw=>U5 (gG 0 v) w1)) (λ x5=>?_);refine J5 ?_
 refine aY Tryz.results76 (λ w hw=>?_)
 exact⟨(sN (gG 0 v),[],a),rfl,⟨⟨rfl,rfl⟩,ok,AS.iP.refl a⟩,hw.rI⟩
theorem wv{i:Int}{s:Mm}{bo bi:Nat}(ht:t.root<=9223372036854775807)(hi:i<=s.nodes.length):vB b 87 [pt bo,pt bi] [] (bx bo (lE b t)::bx bi [iv i]::B) s (jR t i λ r=>.done (gG r false)):=by
 intro a D A w em ok hm hA hB hw0
 subst em
 have hT:D6 b (λ r=>.done (gG r false)) a.mm 89 [] (bx bo (lE b t)::bx bi [iv i]::B):=⟨by kernel_rfl,λ v s1 l hv=>xo v⟩
 refine enter Tryz.func87 Tryz.ntmps87 rfl rfl hw0 ?_
 simp only[cD]
 refine J0 ?_;refine aJ (λ x2=>?_);refine aH ?_;refine J0 ?_;refine aC (gm bo (lE b t) 0 3 hB rfl rfl) rfl ?_;refine aC (qE bi [.int .i64 i] 0 hB rfl) rfl ?_;refine aD (H2 (λ w1 hw=>n0 ht hT hi ok hm hA hB hw)) (λ x5 h5=>?_);refine cO (jE λ _=>bO rf cX rf (dK _) eP rf kL) (λ _=>?_);refine aH ?_
 refine aY Tryz.results87 (λ w hw=>?_)
 exact⟨x5,rfl,h5,hw.rN⟩
theorem w7{i bJ n:Int}{s:Mm}{bo bi bl bn:Nat}(ht:t.root<=9223372036854775807)(hi:i<=s.nodes.length)(hnn:n<=s.nodes.length):vB b 74 [pt bo,pt bi,pt bl,pt bn] [] (bx bo (lE b t)::bx bi [iv i]::bx bl [iv bJ]::bx bn [iv n]::B) s (jD t i bJ n λ ok=>.done (gG 0 ok)):=by
 intro a D A w em ok hm hA hB hw0
 subst em
 have hT:Ww b (λ ok=>.done (gG 0 ok)) a.mm 76 [] (bx bo (lE b t)::bx bi [iv i]::bx bl [iv bJ]::bx bn [iv n]::B):=⟨by kernel_rfl,λ v s1 l=>xn v⟩
 refine enter Tryz.func74 Tryz.ntmps74 rfl rfl hw0 ?_
 simp only[cD]
 refine J0 ?_;refine aJ (λ x4=>?_);refine aH ?_;refine J0 ?_;refine aC (gm bo (lE b t) 0 3 hB rfl rfl) rfl ?_;refine aC (qE bi [.int .i64 i] 0 hB rfl) rfl ?_;refine aC (qE bl [.int .i64 bJ] 0 hB rfl) rfl ?_;refine aC (qE bn [.int .i64 n] 0 hB rfl) rfl ?_;refine aD (H2 (λ w1 hw=>pi ht hT hi hnn ok hm hA hB hw)) (λ x9 h9=>?_);refine cO (jE λ _=>bO rf cX rf (dK _) eP rf kL) (λ _=>?_);refine aH ?_
 refine aY Tryz.results74 (λ w hw=>?_)
 exact⟨x9,rfl,h9,hw.rN⟩
theorem dp{i:Int}(ht:t.root<=9223372036854775807)(hi:i<=a.mm.nodes.length){n m:Nat}(hT:bT (jR t i λ r=>.done (gG r false)) n m)(ok:a.Ok)(hm:a.mm.Small)(hA:∀f∈aM a.L,f∈A)(hB:∀x∈B,x∈A)(hs:SF w D [(b,fI a)] A [] (fQ a) w) :
  Calls Tryz.prog 38 #[.iface 42 (.pointer (some ⟨b,0,none⟩)),.agg ⟨[.int .i64 t.root,.bool t.ro]⟩,.int .i64 i] w λ e w'=>∃x:Nat×Cd×Fr×AS,e=.returned (.pointer (some ⟨x.1,0,none⟩))/\(qF b (Ct.dY (jR t i λ r=>.done (gG r false)) a.mm) a B x.2/\eK (Ct.dY (jR t i λ r=>.done (gG r false)) a.mm).1=true)/\SF w D [(x.1,tO b x.2.1 0),(b,fI x.2.2.2)] [] x.2.2.1 (fQ x.2.2.2) w':=by
 refine enter Tryz.func38 Tryz.ntmps38 rfl rfl hs ?_
 simp only[cD]
 refine J0 ?_;refine bK (λ x4=>?_);refine bK (λ x5=>?_);refine J1 ?_;refine J2 ?_;refine bP ?_;refine bM ?_;refine aJ (λ x7=>?_);refine J5 ?_;refine J2 ?_;(refine aC (dB (by(repeat (first|exact dC _|(apply cH;focus ((conv=>{lhs;whnf});try exact rfl))));done)) rfl ?_);(refine aN (bC.pre (λ w h=>(show SF _ _ [_,(b,fI a)] _ ([bx x7 (lE b t),bx x5 [iv i]]:Fr) _ w from(h.dF (.tail .head)).dF .head)) (j5 (V:=λ x:Nat×Cd×Fr×AS=>.pointer (some ⟨x.1,0,none⟩)) (hs:=[(b,fI a)]) (os:=fQ a) (hs':=λ x=>[(b,fI x.2.2.2)]) (Hc:=λ x=>[(x.1,tO b x.2.1 0)]) (os':=λ x=>fQ x.2.2.2) (Oc:=λ _=>[]) (Fc:=λ x=>x.2.2.1) (A0:=[bx x7 (lE b t),bx x5 [iv i]]++A) (hA:=bE.au) (hc:=λ w1 hw=>Jd (B:=[bx x7 (lE b t),bx x5 [iv i]]++B) hT ⟨by kernel_rfl,λ s1 l=>wv ht (by have:=l.len;omega)⟩ ok hm (λ f hf=>List.mem_append_right _ (hA f hf)) (F8 hB) hw))) (λ x13=>?_);try (refine eR (λ h13=>?_)));refine J1 ?_
 refine aQ Tryz.results38 (λ w hw=>?_)
 exact⟨(x13.1,x13.2.1,x13.2.2.1++[bx x7 (lE b t),bx x5 [iv i]],x13.2.2.2),rfl,⟨qF.app h13.1,h13.2⟩,hw.ret (by repeat (first|exact List.Sublist.refl _|apply List.Sublist.cons_cons|apply List.Sublist.cons)) (aW.iI λ f hf=>hf) (by repeat (exact List.Sublist.refl _))⟩
theorem Oj{i bJ nw:Int}(ht:t.root<=9223372036854775807)(hi:i<=a.mm.nodes.length)(hnn:nw<=a.mm.nodes.length){n m:Nat}(hT:bT (jD t i bJ nw λ ok=>.done (gG 0 ok)) n m)(ok:a.Ok)(hm:a.mm.Small)(hA:∀f∈aM a.L,f∈A)(hB:∀x∈B,x∈A)(hs:SF w D [(b,fI a)] A [] (fQ a) w) :
  Calls Tryz.prog 28 #[.iface 42 (.pointer (some ⟨b,0,none⟩)),.agg ⟨[.int .i64 t.root,.bool t.ro]⟩,.int .i64 i,.int .i64 bJ,.int .i64 nw] w λ e w'=>∃x:Nat×Cd×Fr×AS,e=.returned (.pointer (some ⟨x.1,0,none⟩))/\(qF b (Ct.dY (jD t i bJ nw λ ok=>.done (gG 0 ok)) a.mm) a B x.2/\eK (Ct.dY (jD t i bJ nw λ ok=>.done (gG 0 ok)) a.mm).1=true)/\SF w D [(x.1,tO b x.2.1 0),(b,fI x.2.2.2)] [] x.2.2.1 (fQ x.2.2.2) w':=by
 refine enter Tryz.func28 Tryz.ntmps28 rfl rfl hs ?_
 simp only[cD]
 refine J0 ?_;refine bK (λ x6=>?_);refine bK (λ x7=>?_);refine bK (λ x8=>?_);refine bK (λ x9=>?_);refine J1 ?_;refine J2 ?_;refine bP ?_;refine bM ?_;refine aJ (λ x11=>?_);refine J5 ?_;refine J2 ?_;(refine aC (dB (by(repeat (first|exact dC _|(apply cH;focus ((conv=>{lhs;whnf});try exact rfl))));done)) rfl ?_);(refine aN (bC.pre (λ w h=>(show SF _ _ [_,(b,fI a)] _ ([bx x11 (lE b t),bx x7 [iv i],bx x8 [iv bJ],bx x9 [iv nw]]:Fr) _ w from(((h.dF (.tail .head)).dF (.tail .head)).dF (.tail .head)).dF .head)) (j5 (V:=λ x:Nat×Cd×Fr×AS=>.pointer (some ⟨x.1,0,none⟩)) (hs:=[(b,fI a)]) (os:=fQ a) (hs':=λ x=>[(b,fI x.2.2.2)]) (Hc:=λ x=>[(x.1,tO b x.2.1 0)]) (os':=λ x=>fQ x.2.2.2) (Oc:=λ _=>[]) (Fc:=λ x=>x.2.2.1) (A0:=[bx x11 (lE b t),bx x7 [iv i],bx x8 [iv bJ],bx x9 [iv nw]]++A) (hA:=bE.au) (hc:=λ w1 hw=>Jd (B:=[bx x11 (lE b t),bx x7 [iv i],bx x8 [iv bJ],bx x9 [iv nw]]++B) hT ⟨by kernel_rfl,λ s1 l=>w7 ht (by have:=l.len;omega) (by have:=l.len;omega)⟩ ok hm (λ f hf=>List.mem_append_right _ (hA f hf)) (F8 hB) hw))) (λ x17=>?_);try (refine eR (λ h17=>?_)));refine J1 ?_
 refine aQ Tryz.results28 (λ w hw=>?_)
 exact⟨(x17.1,x17.2.1,x17.2.2.1++[bx x11 (lE b t),bx x7 [iv i],bx x8 [iv bJ],bx x9 [iv nw]],x17.2.2.2),rfl,⟨qF.app h17.1,h17.2⟩,hw.ret (by repeat (first|exact List.Sublist.refl _|apply List.Sublist.cons_cons|apply List.Sublist.cons)) (aW.iI λ f hf=>hf) (by repeat (exact List.Sublist.refl _))⟩
end
end

/- root: Help. -/
section
open Go Go.RowKit Go.Ct
section
variable{D:List Nat}{A B:Fr}{a:AS}{b:Nat}{w:World}{f:FuncId}{cap:List Value}{t:fG}
end
end

/- root: Replace. -/
section
open Go Go.RowKit Go.Ct
section
variable{D:List Nat}{A B:Fr}{a:AS}{b:Nat}{w:World}{f:FuncId}{cap:List Value}{t:fG}
end
end

/- root: the tasks. -/
section
open Go Go.RowKit Go.Ct
section
variable{D:List Nat}{A B:Fr}{a:AS}{b:Nat}{w:World}{f:FuncId}{cap:List Value}{t:fG}
end
end

/- The laws of root: a world, an arena, a trie; the sanity check. -/
end Go.Proofs.YtbajmaoegmbfgaaGreat
namespace Go.Ct
section
open Go Go.RowKit
end
end Go.Ct
namespace Go.Proofs.YtbajmaoegmbfgaaGreat
section
open Go Go.RowKit Go.Ct
structure TQ where
 bw:Nat
 bm:Nat
 m:Nat
 W:Wd
 ba:Nat
 a:AS
 j:Nat
 tp:Nat
 pos:Nat
structure Zx(q:TQ):Prop where
 m:q.m<18446744073709551616
 W:Kx q.m 2415922570 1048594 18 q.W
 j:q.j<q.W.ts.length
 mm:q.a.mm=q.W.z.mm
 a:q.a.Ok
abbrev TQ.t(q:TQ):fG:=q.W.ts.getD q.j ⟨0,false⟩
theorem Zx.root{q:TQ}(h:Zx q):q.t.root<=9223372036854775807:=h.W.root (by decide) (rG h.j)
theorem Zx.sm{q:TQ}(h:Zx q):q.a.mm.Small:=by
 obtain⟨s1,s2,s3⟩:=h.W.sz
 rw[h.mm]
 refine⟨?_,?_⟩
 ·show(q.W.z.L.map aP.c).length<=_
  rw[List.length_map];omega
 ·show q.W.z.cs.length<=_;omega
abbrev tqO(q:TQ):List Ow:=fQ q.a++Ga q.W.z
end

/- The laws of root: the sanity check. -/
section
open Go Go.RowKit Go.Ct
theorem Wl(x y:AX):fY (L4 x y) [0,3,4] 1 :=
 oO (m:=0) (B:=8) (C:=0) (E:=0) (W:=⟨XS.new (L4 x y) [0,3,4] 1 0 none 0 none 0,[⟨3,false⟩],none,0,[],none,0⟩) ⟨U0 _ _ _ _ _ _ _,⟨by show 4<=8;decide,by show 3<=8;decide,by show(1:Int)<=((8:Nat):Int);decide⟩,(λ e he=>nomatch he),by show 0<1;decide,rfl,by show 1<=5;decide,Nat.le_refl _,.new⟩
section
variable{D:List Nat}{A B:Fr}{a0 a:AS}{b bt n m most:Nat}{w:World}{c:Cd}{F:Fr}{p:Tr×Mm}
theorem Oq(hp:qF b p a0 B (c,F,a))(ha:eK p.1=true)(ht:bT p.1 m 64)(hmm:most<=m)(hm:p.2.nodes.length+64*most<=137438953472/\p.2.cs.length+64*most<=137438953472)(hn:n+most<1000000000)(hA:∀f∈aM a.L,f∈A)(hB:∀x∈F++B,x∈A)(hs:SF w D [(bt,tO b c n),(b,fI a)] A [] (fQ a) w) :
  Calls Tryz.prog 30 #[.pointer (some ⟨bt,0,none⟩),.int .i64 ((most:Nat):Int)] w λ e w'=>∃y:Cd×Fr×AS,e=.returned (.int .i64 ((nB p most:Nat):Int))/\y4 b (iM p most) a (F++B) y/\SF w D [(bt,tO b y.1 (n+nB p most)),(b,fI y.2.2)] [] y.2.1 (fQ y.2.2) w':=by
 obtain⟨⟨h1,h2⟩,h3,h4⟩:=hp
 simp only at h1 h2 h3
 have e:(p.1,a.mm)=p:=by rw[h2]
 have:=ef (b:=b) (bt:=bt) (n:=n) (D:=D) (A:=A) (B:=F++B) (w:=w) (most:=most) ht hmm ha (a:=a) (c:=c) (by rw[h2];exact h1) h3 (by rw[h2];exact hm) hn hA hB hs
 rw[e] at this
 exact this
end
end

/- A run of a task to its end, by what is known of it. -/
section
open Go Go.RowKit Go.Ct
structure Ran(N:Nat)(T:Tr)(M:Mm)(n:Nat)(x:Rs)(s':Mm):Prop where
 he:iM (Ct.dY T M) N=(.done x,s')
 hn:nB (Ct.dY T M) N=n
section
variable{D:List Nat}{A B F:Fr}{a0 a:AS}{b bt n1 N:Nat}{c:Cd}{w:World}{T:Tr}{M s':Mm}{x:Rs}
theorem ei(hN:N<=20)(hT:bT T 20 64)(hp:qF b (Ct.dY T M) a0 B (c,F,a))(hl:M.nodes.length<=110000000000/\M.cs.length<=110000000000)(hr:Ran N T M n1 x s')(hA:∀f∈aM a.L,f∈A)(hB:∀x∈F++B,x∈A)(hs:SF w D [(bt,tO b c 0),(b,fI a)] A [] (fQ a) w) :
  Calls Tryz.prog 30 #[.pointer (some ⟨bt,0,none⟩),.int .i64 ((N:Nat):Int)] w λ e w'=>∃y:Fr×AS,e=.returned (.int .i64 ((n1:Nat):Int))/\(y.2.mm=s'/\y.2.Ok/\a.iP y.2 y.1)/\SF w D [(bt,tO b (sN x) n1),(b,fI y.2)] [] y.1 (fQ y.2) w':=by
 obtain⟨s1,s2⟩:=nY M hT
 obtain⟨he,hn⟩:=hr
 refine(Oq (n:=0) (m:=20) (most:=N) hp (kM M hT) (kP M hT 64) hN ⟨by omega,by omega⟩ (by omega) hA hB hs).mono λ e w' ⟨y,h1,h2,hw⟩=>?_
 have h3:=h2.rp
 have h4:=h2.mm
 rw[hn] at h1 hw
 rw[he] at h3 h4
 obtain⟨_,h5⟩:=h3
 rw[h5,Nat.zero_add] at hw
 exact⟨(y.2.1,y.2.2),h1,⟨h4,h2.ok,h2.gr⟩,hw⟩
theorem Ran.sz(h:Ran N T M n1 x s')(hN:N<=20)(hT:bT T 20 64):s'.nodes.length<=M.nodes.length+2000/\s'.cs.length<=M.cs.length+2000:=by
 obtain⟨s1,s2⟩:=nY M hT
 obtain⟨_,_,h3,h4⟩:=Ab (kP M hT 64) (kM M hT) N hN (s:=(Ct.dY T M).2)
 have e:iM ((Ct.dY T M).1,(Ct.dY T M).2) N=(.done x,s'):=h.he
 rw[e] at h3 h4
 replace h3:s'.nodes.length<=_:=h3
 replace h4:s'.cs.length<=_:=h4
 exact⟨by omega,by omega⟩
end
theorem iy{a0 a1 a2:AS}{F1 F2 G:Fr}(h1:a0.iP a1 F1)(h2:a1.iP a2 F2)(hG:∀f∈aM a0.L,f∈G):∀f∈aM a2.L,f.2=[]∨f∈F2++(F1++G):=λ f hf=>by
 simp only[List.mem_append]
 rcases h2.fam f hf with h|h|h
 ·exact .inl h
 ·rcases h1.fam f h with h|h|h
  ·exact .inl h
  ·exact .inr (.inr (.inr (hG f h)))
  ·exact .inr (.inr (.inl h))
 ·exact .inr (.inl h)
theorem E2{s:Mm}{v:Nv}{i:Int}(h0:s.nodes.length<=100000002000/\s.cs.length<=100000002000):(s.push v i).nodes.length<=100000003000/\(s.push v i).cs.length<=100000003000:=by
 refine⟨?_,?_⟩
 ·show(s.nodes++[_]).length<=_
  simp
  omega
 ·have:=(jW (k:=v.kind) (cs:=s.cs) (init:=i)).2
  show(fS v.kind s.cs i).length<=_
  omega
end

end Go.Proofs.YtbajmaoegmbfgaaGreat
