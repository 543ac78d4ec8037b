/- Merged. -/
import Derived.Test.YtbajmaoegmbfgaaGreatGGc1
import Derived.Test.YtbajmaoegmbfgaaGreatGWo2
set_option linter.unusedSimpArgs false
set_option linter.unusedVariables false
namespace Go.Proofs.YtbajmaoegmbfgaaGreat
open Go Go.RowKit Go.Ct
section
theorem Uh{b:Nat}{i m p prev:Int}{c:Bool}{K:Int->Tr}{s s2:Mm}{cd:Cd}{B:Fr}(hmm:m<=s.nodes.length)(hn:(bD s.nodes m).prev=prev)(h:kB b (jj prev p c λ _=>jV i m K) s cd s2 B):kB b (rA i m p c K) s cd s2 B:=by
 subst hn
 unfold jj at h
 unfold rA
 split
 ·rename_i hc
  rw[if_pos hc] at h
  exact⟨hmm,h⟩
 ·rename_i hc
  rw[if_neg hc] at h
  exact⟨hmm,h⟩
section
variable{D:List Nat}{A B:Fr}{a:AS}{b:Nat}{w:World}{f:FuncId}{cap:List Value}{t:dO}
theorem r5{K:Int->Tr}{i m p:Int}{s:Mm}{bt bm bo bi:Nat}(hK:zN b K s f cap B)(hi:i<=s.nodes.length)(hmm:m<=s.nodes.length)(hp:p<=s.nodes.length):oR b 165 [pt bt,pt bm,pt bo,pt bi] [.int .i64 p] (bx bt [fn f cap]::bx bm [iv m]::bx bo (iH b t)::bx bi [iv i]::B) s (if p=0 then K m else Nh i m p K):=by
 intro a D A w em ok hm hA hB hw0
 subst em
 have hK2:=hK.more (B2:=(bx bt [fn f cap]::bx bm [iv m]::bx bo (iH b t)::bx bi [iv i]::B)) (λ x hx=>by simp[hx])
 refine enter Tryz.func165 Tryz.ntmps165 rfl rfl hw0 ?_
 simp only[cE]
 refine J0 ?_;refine aJ (λ x6=>?_);refine aG ?_;refine lI ?_;refine uM ?_
 refine bE (λ c8=>?_) (λ c8=>?_)
 ·refine J0 ?_;refine aB (nF bt [fn f cap] 0 hB rfl) rfl ?_;refine aB (nF bm [.int .i64 m] 0 hB rfl) rfl ?_;refine aC (Lg hK2.1 (hK2.2 m a.mm (Mm.Le.refl _) hmm) ok hm hA hB) (λ x11 h11=>?_);refine cB (gK λ _=>aW rf cR rf (cN _) eE rf jC) (λ _=>?_);refine aG ?_
  refine bB Tryz.results165 (λ w hw=>?_)
  refine⟨x11,rfl,⟨?_,h11.2⟩,hw.rN⟩
  rw[if_pos (by omega)]
  exact h11.1
 ·refine aS ?_;refine J0 ?_;refine aB (Pv bo (iH b t) 0 3 hB rfl rfl) rfl ?_;refine aB (nF bi [.int .i64 i] 0 hB rfl) rfl ?_;refine aB (nF bm [.int .i64 m] 0 hB rfl) rfl ?_;refine aA ?_;refine aB (nF bt [fn f cap] 0 hB rfl) rfl ?_;refine aC (Bi (λ w1 hw=>Uz hK2 hi hmm hp ok hm hA hB hw)) (λ x17 h17=>?_);refine cB (gK λ _=>aW rf cR rf (cN _) eE rf jC) (λ _=>?_);refine aG ?_
  refine bB Tryz.results165 (λ w hw=>?_)
  refine⟨x17,rfl,⟨?_,h17.2⟩,hw.rN⟩
  rw[if_neg (by omega)]
  exact h17.1
theorem nh{K:Int->Tr}{i m prev:Int}{s:Mm}{bp bt bm bo bi:Nat}(hK:zN b K s f cap B)(hi:i<=s.nodes.length)(hmm:m<=s.nodes.length)(hpr:prev<=9223372036854775807)(hn:(bD s.nodes m).prev=prev)(o:Bool):oR b 164 [pt bp,pt bt,pt bm,pt bo,pt bi] [.bool o] (bx bp [iv prev]::bx bt [fn f cap]::bx bm [iv m]::bx bo (iH b t)::bx bi [iv i]::B) s (jV i m K):=by
 intro a D A w em ok hm hA hB hw0
 subst em
 refine enter Tryz.func164 Tryz.ntmps164 rfl rfl hw0 ?_
 simp only[cE]
 refine J0 ?_;refine aJ (λ x7=>?_);refine aG ?_;refine J0 ?_;refine aB (nF bp [.int .i64 prev] 0 hB rfl) rfl ?_;(refine aB cD rfl ?_);refine aM (cV (hc:=λ w1 hw=>nL _ _ _ w1)) (λ x10=>?_);refine cB (gK λ _=>aW rf cR rf (cN _) eE rf jC) (λ _=>?_);refine aG ?_
 refine bB Tryz.results164 (λ w hw=>?_)
 refine⟨(nK prev _ _,[],a),rfl,⟨⟨hmm,?_⟩,ok,AS.gQ.refl a⟩,hw.rI⟩
 dsimp only
 rw[hn]
 exact⟨rfl,hpr,_,_,rfl,by kernel_rfl,λ p s1 l hp=>(r5 (bt:=bt) (bm:=bm) (bo:=bo) (bi:=bi) (hK.le l) (by have:=l.len;omega) (by have:=l.len;omega) hp).mr (λ y hy=>List.mem_cons_of_mem _ hy)⟩
theorem ti{K:Int->Tr}{i m p prev r:Int}{s:Mm}{bo bi bp bq ba:Nat}(hK:So b (λ _=>jV i m K) s f cap B)(hi:i<=s.nodes.length)(hmm:m<=s.nodes.length)(hp:p<=s.nodes.length)(hr:r<=s.nodes.length)(hn:(bD s.nodes m).prev=prev):oR b 168 [pt bo,pt bi,pt bp,pt bq,pt ba] [.int .i64 r] (bx bo (iH b t)::bx bi [iv i]::bx bp [iv prev]::bx bq [iv p]::bx ba [fn f cap]::B) s (.node r λ nr=>.node i λ ni=>rA i m p (nr.gen==ni.gen) K):=by
 intro a D A w em ok hm hA hB hw0
 subst em
 have hK2:=hK.more (B2:=(bx bo (iH b t)::bx bi [iv i]::bx bp [iv prev]::bx bq [iv p]::bx ba [fn f cap]::B)) (λ x hx=>by simp[hx])
 have hpr:prev<=a.mm.cs.length:=by rw[<- hn];exact(ok.mo.at m).prev
 refine enter Tryz.func168 Tryz.ntmps168 rfl rfl hw0 ?_
 simp only[cE]
 refine J0 ?_;refine aJ (λ x7=>?_);refine S3 ?_;refine eQ [(0,[]),(1,[]),(2,[]),(5,[]),(6,[]),(7,[]),(3,[6,7]),(4,[]),(8,[]),(9,[]),(10,[]),(11,[])] ?_;refine aT ?_;refine bT (i:=1) (hq:=(nF bo (iH b t) 0 hB rfl)) (h:=?_);refine bC ?_;refine aT ?_;refine bT (i:=6) (hq:=(nF bo (iH b t) 0 hB rfl)) (h:=?_);refine bT (i:=7) (hq:=(nF bi [.int .i64 i] 0 hB rfl)) (h:=?_);refine bG (i:=3) (hq:=(Iq r ok hm hA hr)) (hfire:=(λ _=>by(refine iV ?_;(repeat (first|exact aQ.nil|refine aQ.cons (by first|exact iP (hq:=nF bo (iH b t) 0 hB rfl)|exact iP (hq:=nF bi [.int .i64 i] 0 hB rfl)) ?_));done))) (h:=λ x12 h12=>?_);refine qT ?_;refine bG (i:=8) (hq:=(Iq i ok hm hA hi)) (h:=λ x17 h17=>?_);refine qT ?_;refine oC ?_;refine J7 ?_;refine J0 ?_;refine aB (Pv bo (iH b t) 0 3 hB rfl rfl) rfl ?_;refine aB (nF bp [.int .i64 prev] 0 hB rfl) rfl ?_;refine aB (nF bq [.int .i64 p] 0 hB rfl) rfl ?_;refine aA ?_;refine aB (nF ba [fn f cap] 0 hB rfl) rfl ?_;refine aC (Bi (λ w1 hw=>Kd (K:=λ _=>jV i m K) hK2 hpr hp ok hm hA hB hw)) (λ x25 h25=>?_);refine cB (gK λ _=>aW rf cR rf (cN _) eE rf jC) (λ _=>?_);refine aG ?_
 refine bB Tryz.results168 (λ w hw=>?_)
 refine⟨x25,rfl,⟨⟨hr,hi,?_⟩,h25.2⟩,hw.rN⟩
 rw[iJ,iJ]
 exact Uh hmm hn h25.1
set_option maxRecDepth 100000 in
set_option maxHeartbeats 2000000 in
theorem s7{K:Int->Tr}{i m p prev:Int}{s:Mm}{bt bm bo bi bp:Nat}(ht:t.root<=9223372036854775807)(hK:zN b K s f cap B)(hi:i<=s.nodes.length)(hmm:m<=s.nodes.length)(hp:p<=s.nodes.length)(hn:(bD s.nodes m).prev=prev):oR b 162 [pt bt,pt bm,pt bo,pt bi,pt bp] [.int .i64 p] (bx bt [fn f cap]::bx bm [iv m]::bx bo (iH b t)::bx bi [iv i]::bx bp [iv prev]::B) s (if p=0 then K m else .node p λ np=>if bZ np then(if t.ro=true then rA i m p false K else Ji t λ r=>.node r λ nr=>.node i λ ni=>rA i m p (nr.gen==ni.gen) K) else Nh i m p K):=by
 intro a D A w em ok hm hA hB hw0
 subst em
 have hK2:=hK.more (B2:=(bx bt [fn f cap]::bx bm [iv m]::bx bo (iH b t)::bx bi [iv i]::bx bp [iv prev]::B)) (λ x hx=>by simp[hx])
 have np:=C5 ok p
 have hpr:prev<=a.mm.cs.length:=by rw[<- hn];exact(ok.mo.at m).prev
 have hAg:So b (λ _=>jV i m K) a.mm 164 [.pointer (some ⟨bp,0,none⟩),.pointer (some ⟨bt,0,none⟩),.pointer (some ⟨bm,0,none⟩),.pointer (some ⟨bo,0,none⟩),.pointer (some ⟨bi,0,none⟩)] (bx bt [fn f cap]::bx bm [iv m]::bx bo (iH b t)::bx bi [iv i]::bx bp [iv prev]::B):=⟨by kernel_rfl,λ o s1 l=>(nh (t:=t) (prev:=prev) (bp:=bp) (bt:=bt) (bm:=bm) (bo:=bo) (bi:=bi) (hK.le l) (by have:=l.len;omega) (by have:=l.len;omega) (mK hm hpr) (by rw[l.nd hmm];exact hn) o).mr (λ y hy=>by
  simp only[List.mem_cons] at hy ⊢
  rcases hy with h|h|h|h|h|h<;>simp[h])⟩
 have hRt:∀x6 x8:Nat,zN b (λ r=>.node r λ nr=>.node i λ ni=>rA i m p (nr.gen==ni.gen) K) a.mm 168 [.pointer (some ⟨bo,0,none⟩),.pointer (some ⟨bi,0,none⟩),.pointer (some ⟨bp,0,none⟩),.pointer (some ⟨x6,0,none⟩),.pointer (some ⟨x8,0,none⟩)] (bx x8 [.func (.func 164) #[] ⟨[.pointer (some ⟨bp,0,none⟩),.pointer (some ⟨bt,0,none⟩),.pointer (some ⟨bm,0,none⟩),.pointer (some ⟨bo,0,none⟩),.pointer (some ⟨bi,0,none⟩)]⟩]::bx x6 [iv p]::(bx bt [fn f cap]::bx bm [iv m]::bx bo (iH b t)::bx bi [iv i]::bx bp [iv prev]::B)):=λ x6 x8=>⟨by kernel_rfl,λ r s1 l hr=>(ti (t:=t) (prev:=prev) (bo:=bo) (bi:=bi) (bp:=bp) (bq:=x6) (ba:=x8) (hAg.le l) (by have:=l.len;omega) (by have:=l.len;omega) (by have:=l.len;omega) hr (by rw[l.nd hmm];exact hn)).mr (λ y hy=>by
  simp only[List.mem_cons] at hy ⊢
  rcases hy with h|h|h|h|h|h<;>simp[h])⟩
 refine enter Tryz.func162 Tryz.ntmps162 rfl rfl hw0 ?_
 simp only[cE]
 refine J0 ?_;refine bN (λ x6=>?_);refine aJ (λ x7=>?_);refine S3 ?_;refine oX ?_;refine uM ?_
 refine bE (λ c10=>?_) (λ c10=>?_)
 ·refine J0 ?_;refine aB (nF bt [fn f cap] 0 hB rfl) rfl ?_;refine aB (nF bm [.int .i64 m] 0 hB rfl) rfl ?_;refine aC (Lg hK2.1 (hK2.2 m a.mm (Mm.Le.refl _) hmm) ok hm hA hB) (λ x13 h13=>?_);refine cB (gK λ _=>aW rf cR rf (cN _) eE rf jC) (λ _=>?_);refine aG ?_
  refine bB Tryz.results162 (λ w hw=>?_)
  refine⟨x13,rfl,⟨?_,h13.2⟩,hw.rN⟩
  rw[if_pos (by omega)]
  exact h13.1
 ·refine lW ?_;refine Ka6 ?_;refine aB (nF bo (iH b t) 0 hB rfl) rfl ?_;refine bO ?_;refine aC (Iq p ok hm hA hp) (λ x17 h17=>?_);refine aC (c0 (V:=.bool) (hc:=λ w1 hw=>Ro ((aD (dH a.L) p).at_ x17.1 x17.2).nd w1)) (λ x18 h18=>?_);refine pN ?_
  refine bE (λ c19=>?_) (λ c19=>?_)
  ·refine J0 ?_;refine aB (Pv bo (iH b t) 0 3 hB rfl rfl) rfl ?_;refine aB (nF bi [.int .i64 i] 0 hB rfl) rfl ?_;refine aB (nF bm [.int .i64 m] 0 hB rfl) rfl ?_;refine bO ?_;refine aB (nF bt [fn f cap] 0 hB rfl) rfl ?_;refine aC (Bi (λ w1 hw=>Uz hK2 hi hmm hp ok hm hA hB hw)) (λ x25 h25=>?_);refine cB (gK λ _=>aW rf cR rf (cN _) eE rf jC) (λ _=>?_);refine aG ?_
   refine bB Tryz.results162 (λ w hw=>?_)
   refine⟨x25,rfl,⟨?_,h25.2⟩,hw.rN⟩
   rw[if_neg (by omega)]
   refine⟨hp,?_⟩
   rw[iJ]
   dsimp only
   rw[if_neg (λ hk=>by have h2:=h18.2 hk;rw[h2] at c19;cases c19)]
   exact h25.1
  ·refine aS ?_;refine J0 ?_;(refine aB cD rfl ?_);refine aM (gK λ _=>Fh (z:=.nilFunc) (by kernel_rfl) rfl) (λ x8=>?_);refine J5 ?_;refine aR ?_;refine Ka6 ?_;refine aE ?_;refine aB (nF bo (iH b t) 2 hB rfl) rfl ?_;refine aG ?_
   refine bE (λ c29=>?_) (λ c29=>?_)
   ·refine J0 ?_;refine aB (Pv bo (iH b t) 0 3 hB rfl rfl) rfl ?_;refine aB (nF bp [.int .i64 prev] 0 hB rfl) rfl ?_;refine bO ?_;refine bO ?_;refine aC (Bi (λ w1 hw=>Kd (K:=λ _=>jV i m K) hAg hpr hp ok hm hA hB hw)) (λ x34 h34=>?_);refine cB (gK λ _=>aW rf cR rf (cN _) eE rf jC) (λ _=>?_);refine aG ?_
    refine bB Tryz.results162 (λ w hw=>?_)
    refine⟨x34,rfl,⟨?_,h34.2⟩,hw.rN⟩
    rw[if_neg (by omega)]
    refine⟨hp,?_⟩
    rw[iJ]
    dsimp only
    rw[if_pos (show bZ (aD (dH a.L) p).c from h18.1 (by simpa using c19)),if_pos c29]
    exact Uh hmm hn h34.1
   ·refine iq (λ w h=>(show SF _ _ [_,(b,dL a)] _ [_,_] _ w from(h.cU (.tail (.tail .head))).cU .head)) ?_
    refine aS ?_;refine J0 ?_;refine aB (Pv bo (iH b t) 0 3 hB rfl rfl) rfl ?_;(refine aB cD rfl ?_);refine aC (cM (V:=λ y:Cd×Fr×AS=>.agg ⟨y.1.cells⟩) (hs:=[(b,dL a)]) (os:=dZ a) (hs':=λ y=>[(b,dL y.2.2)]) (os':=λ y=>dZ y.2.2) (Fc:=λ y=>y.2.1) (A0:=bx x8 [.func (.func 164) #[] ⟨[.pointer (some ⟨bp,0,none⟩),.pointer (some ⟨bt,0,none⟩),.pointer (some ⟨bm,0,none⟩),.pointer (some ⟨bo,0,none⟩),.pointer (some ⟨bi,0,none⟩)]⟩]::bx x6 [iv p]::A) (hA:=bI.jh) (hc:=λ w1 hw=>tg (K:=λ r=>.node r λ nr=>.node i λ ni=>rA i m p (nr.gen==ni.gen) K) (B:=bx x8 [.func (.func 164) #[] ⟨[.pointer (some ⟨bp,0,none⟩),.pointer (some ⟨bt,0,none⟩),.pointer (some ⟨bm,0,none⟩),.pointer (some ⟨bo,0,none⟩),.pointer (some ⟨bi,0,none⟩)]⟩]::bx x6 [iv p]::(bx bt [fn f cap]::bx bm [iv m]::bx bo (iH b t)::bx bi [iv i]::bx bp [iv prev]::B)) ht (hRt x6 x8) ok hm (λ f hf=>List.mem_cons_of_mem _ (List.mem_cons_of_mem _ (hA f hf))) (G8 hB) hw)) (λ x37 h37=>?_);refine cB (gK λ _=>aW rf cR rf (cN _) eE rf jC) (λ _=>?_);refine aG ?_
    refine bB Tryz.results162 (λ w hw=>?_)
    refine⟨(x37.1,x37.2.1++[bx x8 [.func (.func 164) #[] ⟨[.pointer (some ⟨bp,0,none⟩),.pointer (some ⟨bt,0,none⟩),.pointer (some ⟨bm,0,none⟩),.pointer (some ⟨bo,0,none⟩),.pointer (some ⟨bi,0,none⟩)]⟩],bx x6 [iv p]],x37.2.2),rfl,⟨?_,h37.2.1,h37.2.2.more (λ f hf=>List.mem_append_left _ hf)⟩,hw.rI⟩
    rw[if_neg (by omega)]
    refine⟨hp,?_⟩
    rw[iJ]
    dsimp only
    rw[if_pos (show bZ (aD (dH a.L) p).c from h18.1 (by simpa using c19)),if_neg (by rw[c29];decide)]
    rw[List.append_assoc]
    exact h37.1
theorem Xv{K:Int->Tr}{i m:Int}(ht:t.root<=9223372036854775807)(hK:zN b K a.mm f cap B)(hi:i<=a.mm.nodes.length)(hmm:m<=a.mm.nodes.length)(ok:a.Ok)(hm:a.mm.Small)(hA:∀f∈aL a.L,f∈A)(hB:∀x∈B,x∈A)(hs:SF w D [(b,dL a)] A [] (dZ a) w) :
  Calls Tryz.prog 121 #[.agg ⟨iH b t⟩,.int .i64 i,.int .i64 m,fn f cap] w (Ax b (λ c' s' B'=>kB b (qW t i m K) a.mm c' s' B') a B D w):=by
 have nm:=C5 ok m
 refine enter Tryz.func121 Tryz.ntmps121 rfl rfl hs ?_
 simp only[cE]
 refine J0 ?_;refine bN (λ x4=>?_);refine bN (λ x5=>?_);refine bN (λ x6=>?_);refine bN (λ x7=>?_);refine aJ (λ x8=>?_);refine aG ?_;refine gY ?_;refine bO ?_;refine aC (Iq m ok hm hA hmm) (λ x13 h13=>?_);refine cC ?_;refine aM (gK λ _=>Fh (z:=.int .i64 0) (by kernel_rfl) rfl) (λ x9=>?_);refine J5 ?_;refine oX ?_;(refine aB cD rfl ?_);refine aM (cV (hc:=λ w1 hw=>nL _ _ _ w1)) (λ x17=>?_);refine cB (gK λ _=>aW rf cR rf (cN _) eE rf jC) (λ _=>?_);refine aG ?_
 refine bB Tryz.results121 (λ w hw=>?_)
 refine⟨(nK (aD (dH a.L) m).nd.prev _ _,[bx x4 (iH b t),bx x5 [iv i],bx x6 [iv m],bx x7 [fn f cap],bx x9 [iv (aD (dH a.L) m).nd.prev]],a),rfl,⟨⟨hmm,?_⟩,ok,(AS.gQ.refl a).more (λ _ h=>(List.not_mem_nil h).elim)⟩,?_⟩
 ·rw[iJ]
  refine⟨rfl,mK hm nm.prev,_,_,rfl,by kernel_rfl,λ p s1 l hp=>(s7 (bt:=x7) (bm:=x6) (bo:=x4) (bi:=x5) (bp:=x9) (prev:=(aD (dH a.L) m).nd.prev) ht (hK.le l) (by have:=l.len;omega) (by have:=l.len;omega) hp (by rw[l.nd hmm,iJ];rfl)).mr (λ y hy=>?_)⟩
  simp only[List.mem_cons,List.mem_append,List.not_mem_nil,or_false] at hy ⊢
  rcases hy with h|h|h|h|h|h<;>simp[h]
 ·exact(((((hw.cU .head).cU (.tail .head)).cU (.tail .head)).cU (.tail .head)).cU (.tail .head)).rI
end
end
section
section
variable{D:List Nat}{A B:Fr}{a:AS}{b:Nat}{w:World}{f:FuncId}{cap:List Value}{t:dO}
theorem me{K:Int->Tr}{i m:Int}{s:Mm}{bt bo bi:Nat}(ht:t.root<=9223372036854775807)(hK:zN b K s f cap B)(hi:i<=s.nodes.length)(hmm:m<=s.nodes.length):oR b 131 [pt bo,pt bi,pt bt] [.int .i64 m] (bx bo (iH b t)::bx bi [iv i]::bx bt [fn f cap]::B) s (qW t i m K):=by
 intro a D A w em ok hm hA hB hw0
 subst em
 have hK2:=hK.more (B2:=(bx bo (iH b t)::bx bi [iv i]::bx bt [fn f cap]::B)) (λ x hx=>by simp[hx])
 refine enter Tryz.func131 Tryz.ntmps131 rfl rfl hw0 ?_
 simp only[cE]
 refine J0 ?_;refine aJ (λ x5=>?_);refine aG ?_;refine J0 ?_;refine aB (Pv bo (iH b t) 0 3 hB rfl rfl) rfl ?_;refine aB (nF bi [.int .i64 i] 0 hB rfl) rfl ?_;refine aA ?_;refine aB (nF bt [fn f cap] 0 hB rfl) rfl ?_;refine aC (Bi (λ w1 hw=>Xv ht hK2 hi hmm ok hm hA hB hw)) (λ x10 h10=>?_);refine cB (gK λ _=>aW rf cR rf (cN _) eE rf jC) (λ _=>?_);refine aG ?_
 refine bB Tryz.results131 (λ w hw=>?_)
 exact⟨x10,rfl,h10,hw.rN⟩
theorem tw{K:Int->Tr}{i:Int}(ht:t.root<=9223372036854775807)(hK:zN b K a.mm f cap B)(hi:i<=a.mm.nodes.length)(ok:a.Ok)(hm:a.mm.Small)(hA:∀f∈aL a.L,f∈A)(hB:∀x∈B,x∈A)(hs:SF w D [(b,dL a)] A [] (dZ a) w) :
  Calls Tryz.prog 88 #[.agg ⟨iH b t⟩,.int .i64 i,fn f cap] w (Ax b (λ c' s' B'=>kB b (mJ t i K) a.mm c' s' B') a B D w):=by
 have ni:=C5 ok i
 refine enter Tryz.func88 Tryz.ntmps88 rfl rfl hs ?_
 simp only[cE]
 refine J0 ?_;refine bN (λ x3=>?_);refine bN (λ x4=>?_);refine bN (λ x5=>?_);refine aJ (λ x6=>?_);refine aG ?_;refine gY ?_;refine bO ?_;refine aC (Iq i ok hm hA hi) (λ x10 h10=>?_);refine cC ?_;(refine aB cD rfl ?_);refine aM (cV (hc:=λ w1 hw=>nL _ _ _ w1)) (λ x13=>?_);refine cB (gK λ _=>aW rf cR rf (cN _) eE rf jC) (λ _=>?_);refine aG ?_
 refine bB Tryz.results88 (λ w hw=>?_)
 refine⟨(nK (aD (dH a.L) i).nd.main _ _,[bx x3 (iH b t),bx x4 [iv i],bx x5 [fn f cap]],a),rfl,⟨⟨hi,?_⟩,ok,(AS.gQ.refl a).more (λ _ h=>(List.not_mem_nil h).elim)⟩,?_⟩
 ·rw[iJ]
  exact⟨rfl,mK hm ni.main,_,_,rfl,by kernel_rfl,λ m s1 l hmm=>me (bo:=x3) (bi:=x4) (bt:=x5) ht (hK.le l) (by have:=l.len;omega) hmm⟩
 ·exact(((hw.cU (.tail .head)).cU (.tail .head)).cU (.tail .head)).rI
end
end
end Go.Proofs.YtbajmaoegmbfgaaGreat
namespace Go.Ct
open Go Go.RowKit
section
theorem bF.pre{P:Program}{S:List (Nat×Value)}{G G2:World->Prop}{o:Oper}{X:Type}{V:X->Value}{G':X->World->Prop}(h:∀w,G w->G2 w)(hl:bF P S G2 o X V G'):bF P S G o X V G':=⟨λ w hw=>hl.run w (h w hw)⟩
end
end Go.Ct
namespace Go.Proofs.YtbajmaoegmbfgaaGreat
open Go Go.RowKit Go.Ct
section
section
variable{D:List Nat}{A B:Fr}{a:AS}{b:Nat}{w:World}{f:FuncId}{cap:List Value}{t:dO}
theorem Ug{Kt:Tr}{s:Mm}{b5:Nat}(hK:U2 b Kt s f cap B)(o:Bool):oR b 173 [pt b5] [.bool o] (bx b5 [fn f cap]::B) s (Kt):=by
 intro a D A w em ok hm hA hB hw0
 subst em
 have hK2:=hK.more (B2:=(bx b5 [fn f cap]::B)) (λ x hx=>by simp[hx])
 refine enter Tryz.func173 Tryz.ntmps173 rfl rfl hw0 ?_
 simp only[cE]
 refine J0 ?_;refine aJ (λ x3=>?_);refine aG ?_;refine J0 ?_;refine aB (nF b5 [fn f cap] 0 hB rfl) rfl ?_;refine aC (Lg hK2.1 (hK2.2 a.mm (Mm.Le.refl _)) ok hm hA hB) (λ x5 h5=>?_);refine cB (gK λ _=>aW rf cR rf (cN _) eE rf jC) (λ _=>?_);refine aG ?_
 refine bB Tryz.results173 (λ w hw=>?_)
 exact⟨x5,rfl,h5,hw.rN⟩
theorem su{Kt:Tr}{v r:Int}{s:Mm}{b4 b5:Nat}{nd:Nd}(hK:U2 b Kt s f cap B)(hv:v<=s.nodes.length)(he:(bD s.nodes v).exp=nd.exp)(hst:(bD s.nodes v).status=nd.status)(hd:nd.status<=9223372036854775807):oR b 172 [pt b4,pt b5] [.int .i64 r] (bx b4 (nd.cells:List Value)::bx b5 [fn f cap]::B) s (.node v λ n2=>.node v λ n3=>.iQ n3.status 0 (if r=n2.exp then 1 else 2) λ _=>Kt):=by
 intro a D A w em ok hm hA hB hw0
 subst em
 refine enter Tryz.func172 Tryz.ntmps172 rfl rfl hw0 ?_
 simp only[cE]
 refine J0 ?_;refine aJ (λ x4=>?_);refine aG ?_;refine Kc4 ?_;refine aE ?_;refine aB (nF b4 (nd.cells:List Value) 11 hB rfl) rfl ?_;refine uM ?_
 refine bE (λ c9=>?_) (λ c9=>?_)
 ·refine dJ ?_;refine J1 ?_;refine Ka6 ?_;refine aB (nF b4 (nd.cells:List Value) 13 hB rfl) rfl ?_;refine aA ?_;(refine aB cD rfl ?_);refine aM (cV (hc:=λ w1 hw=>tC _ _ _ _ _ w1)) (λ x14=>?_);refine cB (gK λ _=>aW rf cR rf (cN _) eE rf jC) (λ _=>?_);refine aG ?_
  refine bB Tryz.results172 (λ w hw=>?_)
  refine⟨(uB nd.status 0 1 _ _,[],a),rfl,⟨⟨hv,hv,?_⟩,ok,AS.gQ.refl a⟩,hw.rI⟩
  dsimp only
  rw[he,hst,if_pos (by omega)]
  exact⟨rfl,hd,by have:=ok.mo.two;omega,_,_,rfl,by kernel_rfl,λ o s1 l=>(Ug (b5:=b5) (hK.le l) o).mr (λ y hy=>List.mem_cons_of_mem _ hy)⟩
 ·refine aS ?_;refine Ka6 ?_;refine aB (nF b4 (nd.cells:List Value) 13 hB rfl) rfl ?_;refine aA ?_;(refine aB cD rfl ?_);refine aM (cV (hc:=λ w1 hw=>tC _ _ _ _ _ w1)) (λ x14=>?_);refine cB (gK λ _=>aW rf cR rf (cN _) eE rf jC) (λ _=>?_);refine aG ?_
  refine bB Tryz.results172 (λ w hw=>?_)
  refine⟨(uB nd.status 0 2 _ _,[],a),rfl,⟨⟨hv,hv,?_⟩,ok,AS.gQ.refl a⟩,hw.rI⟩
  dsimp only
  rw[he,hst,if_neg (by omega)]
  exact⟨rfl,hd,by have:=ok.mo.two;omega,_,_,rfl,by kernel_rfl,λ o s1 l=>(Ug (b5:=b5) (hK.le l) o).mr (λ y hy=>List.mem_cons_of_mem _ hy)⟩
theorem Jp{Kt:Tr}{v:Int}{nd:Nd}(ht:t.root<=9223372036854775807)(hK:U2 b Kt a.mm f cap B)(hv:v<=a.mm.nodes.length)(ho:(bD a.mm.nodes v).bA=nd.bA)(he:(bD a.mm.nodes v).exp=nd.exp)(hst:(bD a.mm.nodes v).status=nd.status)(ok:a.Ok)(hm:a.mm.Small)(hA:∀f∈aL a.L,f∈A)(hB:∀x∈B,x∈A)(hs:SF w D [(b,dL a)] A [] (dZ a) w) :
  Calls Tryz.prog 138 #[.agg ⟨iH b t⟩,nd.v,fn f cap] w (Ax b (λ c' s' B'=>kB b (jN t v Kt) a.mm c' s' B') a B D w):=by
 have hol:nd.bA<=a.mm.nodes.length:=by rw[<- ho];exact(ok.mo.at v).bA
 have hd:nd.status<=9223372036854775807:=by rw[<- hst];exact mK hm (ok.mo.at v).status
 have hT:∀x4 x5:Nat,zN b (λ r=>.node v λ n2=>.node v λ n3=>.iQ n3.status 0 (if r=n2.exp then 1 else 2) λ _=>Kt) a.mm 172 [.pointer (some ⟨x4,0,none⟩),.pointer (some ⟨x5,0,none⟩)] (bx x5 [fn f cap]::bx x4 (nd.cells:List Value)::B):=λ x4 x5=>⟨by kernel_rfl,λ r s1 l hr=>(su (b4:=x4) (b5:=x5) (nd:=nd) (hK.le l) (by have:=l.len;omega) (by rw[l.nd hv];exact he) (by rw[l.nd hv];exact hst) hd).mr (λ y hy=>by
  simp only[List.mem_cons] at hy ⊢
  rcases hy with h|h|h<;>simp[h])⟩
 refine enter Tryz.func138 Tryz.ntmps138 rfl rfl hs ?_
 simp only[cE]
 simp only[Nd.v,Nd.cells]
 refine J0 ?_;refine bN (λ x3=>?_);refine bN (λ x4=>?_);refine bN (λ x5=>?_);refine aJ (λ x6=>?_);refine aG ?_;refine oX ?_;refine J3 ?_;(refine aB cD rfl ?_);(refine aM (bF.pre (λ w h=>(show SF _ _ [_,_,(b,dL a)] _ [(bx x5 [fn f cap]:Option Addr×List Value),bx x4 (nd.cells:List Value)] _ w from(h.cU (.tail (.tail .head))).cU (.tail .head))) (cM (V:=λ y:Cd×Fr×AS=>.agg ⟨y.1.cells⟩) (hs:=[(b,dL a)]) (os:=dZ a) (hs':=λ y=>[(b,dL y.2.2)]) (os':=λ y=>dZ y.2.2) (Fc:=λ y=>y.2.1) (A0:=bx x5 [fn f cap]::bx x4 (nd.cells:List Value)::A) (hA:=bI.jh) (hc:=λ w1 hw=>tw ht (hT x4 x5) hol ok hm (λ f hf=>List.mem_cons_of_mem _ (List.mem_cons_of_mem _ (hA f hf))) (G8 hB) hw))) (λ x11=>?_);try (refine fD (λ h11=>?_)));refine cB (gK λ _=>aW rf cR rf (cN _) eE rf jC) (λ _=>?_);refine aG ?_
 refine bB Tryz.results138 (λ w hw=>?_)
 refine⟨(x11.1,x11.2.1++[bx x5 [fn f cap],bx x4 (nd.cells:List Value)],x11.2.2),rfl,⟨⟨hv,?_⟩,h11.2.1,h11.2.2.more (λ f hf=>List.mem_append_left _ hf)⟩,hw.rI⟩
 dsimp only
 rw[ho,List.append_assoc]
 exact h11.1
end
end
section
theorem qN.app{b:Nat}{p:Tr×Mm}{a:AS}{B B1 F:Fr}{c:Cd}{a':AS}(h:qN b p a (B1++B) (c,F,a')):qN b p a B (c,F++B1,a'):=by
 obtain⟨⟨h1,h2⟩,h3,h4⟩:=h
 refine⟨⟨?_,h2⟩,h3,h4.more λ f hf=>List.mem_append_left _ hf⟩
 simp only at h1 ⊢
 rw[List.append_assoc]
 exact h1
section
variable{D:List Nat}{A B:Fr}{a:AS}{b:Nat}{w:World}{f:FuncId}{cap:List Value}{t:dO}
theorem Kp{t:Tr}{i m:Nat}(ht:bS t i m)(h:U2 b t a.mm f cap B)(ok:a.Ok)(hm:a.mm.Small)(hA:∀f∈aL a.L,f∈A)(hB:∀x∈B,x∈A)(hs:SF w D [(b,dL a)] A [] (dZ a) w) :
  Calls Tryz.prog 73 #[.iface 42 (.pointer (some ⟨b,0,none⟩)),.func (.func f) #[] ⟨cap⟩] w λ e w'=>∃x:Nat×Cd×Fr×AS,e=.returned (.pointer (some ⟨x.1,0,none⟩))/\(qN b (Ct.gW t a.mm) a B x.2/\cS (Ct.gW t a.mm).1=true)/\SF w D ([(b,dL x.2.2.2)]++[(x.1,tO b x.2.1 0)]) [] x.2.2.1 (dZ x.2.2.2++[]) w' :=
 (jr ht h ok hm hA hB hs).mono λ _ _ ⟨x,e,h,hw⟩=>⟨x,e,h,by rw[List.append_nil];exact hw.perm (List.Perm.swap _ _ _) (List.Perm.refl _)⟩
theorem aAv{s:Mm}(v:Int):yS b 103 [] [.int .i64 v] B s (λ c' s' B'=>kB b (.done (eN v false)) s c' s' B'):=by
 intro a D A w em ok hm hA hB hw0
 subst em
 refine enter Tryz.func103 Tryz.ntmps103 rfl rfl hw0 ?_
 simp only[cE]
 refine J0 ?_;refine aJ (λ x2=>?_);refine Kd0 ?_;refine bK ?_;refine aM (cV (hc:=λ w1 hw=>Wg (eN v false) w1)) (λ x5=>?_);refine J5 ?_
 refine bB Tryz.results103 (λ w hw=>?_)
 exact⟨(zG (eN v false),[],a),rfl,⟨⟨rfl,rfl⟩,ok,AS.gQ.refl a⟩,hw.rI⟩
theorem z7{s:Mm}(v:Bool):yS b 98 [] [.bool v] B s (λ c' s' B'=>kB b (.done (eN 0 v)) s c' s' B'):=by
 intro a D A w em ok hm hA hB hw0
 subst em
 refine enter Tryz.func98 Tryz.ntmps98 rfl rfl hw0 ?_
 simp only[cE]
 refine J0 ?_;refine aJ (λ x2=>?_);refine Kd0 ?_;refine bK ?_;refine aM (cV (hc:=λ w1 hw=>Wg (eN 0 v) w1)) (λ x5=>?_);refine J5 ?_
 refine bB Tryz.results98 (λ w hw=>?_)
 exact⟨(zG (eN 0 v),[],a),rfl,⟨⟨rfl,rfl⟩,ok,AS.gQ.refl a⟩,hw.rI⟩
end
end
section
section
variable{D:List Nat}{A B:Fr}{a:AS}{b:Nat}{w:World}{f:FuncId}{cap:List Value}{t:dO}
theorem jd{K:Int->Tr}{v x:Int}{s:Mm}{b1 b2 b3:Nat}(ht:t.root<=9223372036854775807)(hK:zN b K s f cap B)(hv:v<=s.nodes.length):oR b 147 [pt b1,pt b2,pt b3] [.int .i64 x] (bx b1 (iH b t)::bx b2 [iv v]::bx b3 [fn f cap]::B) s (jX t v x K):=by
 intro a D A w em ok hm hA hB hw0
 subst em
 have hK2:=hK.more (B2:=(bx b1 (iH b t)::bx b2 [iv v]::bx b3 [fn f cap]::B)) (λ x hx=>by simp[hx])
 refine enter Tryz.func147 Tryz.ntmps147 rfl rfl hw0 ?_
 simp only[cE]
 refine J0 ?_;refine aJ (λ x5=>?_);refine aG ?_;refine J0 ?_;refine aB (Pv b1 (iH b t) 0 3 hB rfl rfl) rfl ?_;refine aB (nF b2 [.int .i64 v] 0 hB rfl) rfl ?_;refine aA ?_;refine aB (nF b3 [fn f cap] 0 hB rfl) rfl ?_;refine aC (Bi (λ w1 hw=>nV ht hK2 hv ok hm hA hB hw)) (λ x10 h10=>?_);refine cB (gK λ _=>aW rf cR rf (cN _) eE rf jC) (λ _=>?_);refine aG ?_
 refine bB Tryz.results147 (λ w hw=>?_)
 exact⟨x10,rfl,h10,hw.rN⟩
theorem Zd{K:Int->Tr}{v:Int}{s:Mm}{b0 b1 b2 b3:Nat}{nd:Nd}(ht:t.root<=9223372036854775807)(hK:zN b K s f cap B)(hv:v<=s.nodes.length)(hst:(bD s.nodes v).status=nd.status):oR b 146 [pt b0,pt b1,pt b2,pt b3] [] (bx b0 (nd.cells:List Value)::bx b1 (iH b t)::bx b2 [iv v]::bx b3 [fn f cap]::B) s (.node v λ n=>.load n.status λ s=>jX t v s K):=by
 intro a D A w em ok hm hA hB hw0
 subst em
 have hd:nd.status<=9223372036854775807:=by rw[<- hst];exact mK hm (ok.mo.at v).status
 refine enter Tryz.func146 Tryz.ntmps146 rfl rfl hw0 ?_
 simp only[cE]
 refine J0 ?_;refine aJ (λ x4=>?_);refine aG ?_;refine Ka6 ?_;refine aB (nF b0 (nd.cells:List Value) 13 hB rfl) rfl ?_;(refine aB cD rfl ?_);refine aM (cV (hc:=λ w1 hw=>nL _ _ _ w1)) (λ x8=>?_);refine cB (gK λ _=>aW rf cR rf (cN _) eE rf jC) (λ _=>?_);refine aG ?_
 refine bB Tryz.results146 (λ w hw=>?_)
 refine⟨(nK nd.status _ _,[],a),rfl,⟨⟨hv,?_⟩,ok,AS.gQ.refl a⟩,hw.rI⟩
 dsimp only
 rw[hst]
 exact⟨rfl,hd,_,_,rfl,by kernel_rfl,λ x s1 l hx=>(jd (b1:=b1) (b2:=b2) (b3:=b3) ht (hK.le l) (by have:=l.len;omega)).mr (λ y hy=>List.mem_cons_of_mem _ hy)⟩
theorem ik{K:Int->Tr}{v x:Int}{s:Mm}{b0 b1 b2 b3:Nat}{nd:Nd}(ht:t.root<=9223372036854775807)(hK:zN b K s f cap B)(hv:v<=s.nodes.length)(ho:(bD s.nodes v).bA=nd.bA)(he:(bD s.nodes v).exp=nd.exp)(hst:(bD s.nodes v).status=nd.status):oR b 145 [pt b1,pt b2,pt b3,pt b0] [.int .i64 x] (bx b1 (iH b t)::bx b2 [iv v]::bx b3 [fn f cap]::bx b0 (nd.cells:List Value)::B) s (if x=0 then jN t v (.node v λ n=>.load n.status λ s=>jX t v s K) else jX t v x K):=by
 intro a D A w em ok hm hA hB hw0
 subst em
 have hK2:=hK.more (B2:=(bx b1 (iH b t)::bx b2 [iv v]::bx b3 [fn f cap]::bx b0 (nd.cells:List Value)::B)) (λ x hx=>by simp[hx])
 have hT:U2 b (.node v λ n=>.load n.status λ s=>jX t v s K) a.mm 146 [.pointer (some ⟨b0,0,none⟩),.pointer (some ⟨b1,0,none⟩),.pointer (some ⟨b2,0,none⟩),.pointer (some ⟨b3,0,none⟩)] (bx b1 (iH b t)::bx b2 [iv v]::bx b3 [fn f cap]::bx b0 (nd.cells:List Value)::B):=⟨by kernel_rfl,λ s1 l=>(Zd (b0:=b0) (b1:=b1) (b2:=b2) (b3:=b3) (nd:=nd) ht (hK.le l) (by have:=l.len;omega) (by rw[l.nd hv];exact hst)).mr (λ y hy=>by
  simp only[List.mem_cons] at hy ⊢
  rcases hy with h|h|h|h|h<;>simp[h])⟩
 refine enter Tryz.func145 Tryz.ntmps145 rfl rfl hw0 ?_
 simp only[cE]
 refine J0 ?_;refine aJ (λ x6=>?_);refine aG ?_;refine lI ?_;refine Kd1 ?_
 refine bE (λ c8=>?_) (λ c8=>?_)
 ·refine J0 ?_;refine aB (Pv b1 (iH b t) 0 3 hB rfl rfl) rfl ?_;refine aB (nF b2 [.int .i64 v] 0 hB rfl) rfl ?_;refine aA ?_;refine aB (nF b3 [fn f cap] 0 hB rfl) rfl ?_;refine aC (Bi (λ w1 hw=>nV ht hK2 hv ok hm hA hB hw)) (λ x13 h13=>?_);refine cB (gK λ _=>aW rf cR rf (cN _) eE rf jC) (λ _=>?_);refine aG ?_
  refine bB Tryz.results145 (λ w hw=>?_)
  refine⟨x13,rfl,⟨?_,h13.2⟩,hw.rN⟩
  rw[if_neg (by omega)]
  exact h13.1
 ·refine aS ?_;refine J0 ?_;refine aB (Pv b1 (iH b t) 0 3 hB rfl rfl) rfl ?_;refine aB (Pv b0 (nd.cells:List Value) 0 14 hB rfl rfl) rfl ?_;(refine aB cD rfl ?_);refine aC (Bi (λ w1 hw=>Jp (nd:=nd) ht hT hv ho he hst ok hm hA hB hw)) (λ x17 h17=>?_);refine cB (gK λ _=>aW rf cR rf (cN _) eE rf jC) (λ _=>?_);refine aG ?_
  refine bB Tryz.results145 (λ w hw=>?_)
  refine⟨x17,rfl,⟨?_,h17.2⟩,hw.rN⟩
  rw[if_pos (by omega)]
  exact h17.1
theorem jx{K:Int->Tr}{v:Int}{s:Mm}{b1 b3:Nat}(ht:t.root<=9223372036854775807)(hK:zN b K s f cap B)(hv:v<=s.nodes.length):oR b 144 [pt b1,pt b3] [.int .i64 v] (bx b1 (iH b t)::bx b3 [fn f cap]::B) s (.node v λ n=>if n.kind=2 then K v else .node v λ n=>.load n.status λ s=>if s=0 then jN t v (.node v λ n=>.load n.status λ s=>jX t v s K) else jX t v s K):=by
 intro a D A w em ok hm hA hB hw0
 subst em
 have hK2:=hK.more (B2:=(bx b1 (iH b t)::bx b3 [fn f cap]::B)) (λ x hx=>by simp[hx])
 have nv:=C5 ok v
 refine enter Tryz.func144 Tryz.ntmps144 rfl rfl hw0 ?_
 simp only[cE]
 refine J0 ?_;refine bN (λ x3=>?_);refine aJ (λ x4=>?_);refine aG ?_;refine Ka6 ?_;refine aB (nF b1 (iH b t) 0 hB rfl) rfl ?_;refine bO ?_;refine aC (Iq v ok hm hA hv) (λ x9 h9=>?_);refine aJ (λ x5=>?_);refine J5 ?_;refine Kc9 ?_
 refine bE (λ c12=>?_) (λ c12=>?_)
 ·refine J0 ?_;refine aB (nF b3 [fn f cap] 0 hB rfl) rfl ?_;refine bO ?_;refine aC (Lg hK2.1 (hK2.2 v a.mm (Mm.Le.refl _) hv) ok hm hA hB) (λ x15 h15=>?_);refine cB (gK λ _=>aW rf cR rf (cN _) eE rf jC) (λ _=>?_);refine aG ?_
  refine bB Tryz.results144 (λ w hw=>?_)
  refine⟨x15,rfl,⟨⟨hv,?_⟩,h15.2⟩,hw.rN⟩
  rw[iJ]
  dsimp only
  rw[if_pos (by assumption)]
  exact h15.1
 ·refine aS ?_;refine gY ?_;(refine aB cD rfl ?_);refine aM (cV (hc:=λ w1 hw=>nL _ _ _ w1)) (λ x19=>?_);refine cB (gK λ _=>aW rf cR rf (cN _) eE rf jC) (λ _=>?_);refine aG ?_
  refine bB Tryz.results144 (λ w hw=>?_)
  refine⟨(nK (aD (dH a.L) v).nd.status _ _,[bx x5 (((aD (dH a.L) v).at_ x9.1 x9.2).nd.cells:List Value),bx x3 [iv v]],a),rfl,⟨⟨hv,?_⟩,ok,(AS.gQ.refl a).more (λ _ h=>(List.not_mem_nil h).elim)⟩,?_⟩
  ·rw[iJ]
   dsimp only
   rw[if_neg (by assumption)]
   refine⟨hv,?_⟩
   rw[iJ]
   refine⟨rfl,mK hm nv.status,_,_,rfl,by kernel_rfl,λ x s1 l hx=>?_⟩
   have hlen:=l.len
   exact(ik (b0:=x5) (b1:=b1) (b2:=x3) (b3:=b3) (nd:=((aD (dH a.L) v).at_ x9.1 x9.2).nd) ht (hK.le l) (by omega) (by rw[l.nd hv,iJ];rfl) (by rw[l.nd hv,iJ];rfl) (by rw[l.nd hv,iJ];rfl)).mr (λ y hy=>by
   simp only[List.mem_cons,List.append_eq,List.nil_append,List.mem_append,List.not_mem_nil,or_false] at hy ⊢
   rcases hy with h|h|h|h|h<;>simp[h])
  ·exact((hw.cU (.tail (.tail .head))).cU .head).rI
theorem sw{K:Int->Tr}(ht:t.root<=9223372036854775807)(hK:zN b K a.mm f cap B)(ok:a.Ok)(hm:a.mm.Small)(hA:∀f∈aL a.L,f∈A)(hB:∀x∈B,x∈A)(hs:SF w D [(b,dL a)] A [] (dZ a) w) :
  Calls Tryz.prog 102 #[.agg ⟨iH b t⟩,fn f cap] w (Ax b (λ c' s' B'=>kB b (kF t K) a.mm c' s' B') a B D w):=by
 refine enter Tryz.func102 Tryz.ntmps102 rfl rfl hs ?_
 simp only[cE]
 refine J0 ?_;refine bN (λ x2=>?_);refine bN (λ x3=>?_);refine aJ (λ x4=>?_);refine aG ?_;refine Ka6 ?_;refine J3 ?_;(refine aB cD rfl ?_);refine aM (cV (hc:=λ w1 hw=>nL _ _ _ w1)) (λ x9=>?_);refine cB (gK λ _=>aW rf cR rf (cN _) eE rf jC) (λ _=>?_);refine aG ?_
 refine bB Tryz.results102 (λ w hw=>?_)
 refine⟨(nK t.root _ _,[bx x2 (iH b t),bx x3 [fn f cap]],a),rfl,⟨⟨rfl,ht,_,_,rfl,by kernel_rfl,λ v s1 l hv=>jx (b1:=x2) (b3:=x3) ht (hK.le l) hv⟩,ok,(AS.gQ.refl a).more (λ _ h=>(List.not_mem_nil h).elim)⟩,?_⟩
 exact((hw.cU (.tail .head)).cU (.tail .head)).rI
end
end
end Go.Proofs.YtbajmaoegmbfgaaGreat
