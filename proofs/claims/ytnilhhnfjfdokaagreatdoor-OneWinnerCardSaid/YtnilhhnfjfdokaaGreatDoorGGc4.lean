/- gcas: settle. -/
import Derived.Test.YtnilhhnfjfdokaaGreatDoorGGc0
import Derived.Test.YtnilhhnfjfdokaaGreatDoorGShort
import Derived.Test.YtnilhhnfjfdokaaGreatDoorGDfr

set_option linter.unusedSimpArgs false
set_option linter.unusedVariables false
namespace Go.Proofs.YtnilhhnfjfdokaaGreatDoor
section
open Go Go.RowKit Go.Ct
theorem Np{b:Nat}{i m p prev:Int}{c:Bool}{K:Int->Tr}{s s2:Mm}{cd:Cd}{B:Fr}(hmm:m<=s.nodes.length)(hn:(bU s.nodes m).prev=prev)(h:fN b (Ri prev p c λ _=>fY i m K) s cd s2 B):fN b (kY i m p c K) s cd s2 B:=by
 subst hn
 unfold Ri at h
 unfold kY
 split
 ·rename_i hc
  rw[if_pos hc] at h
  exact⟨hmm,h⟩
 ·rename_i hc
  rw[if_neg hc] at h
  exact⟨hmm,h⟩
section
variable{D:List Nat}{A B:Fr}{a:AS}{b:Nat}{w:World}{f:FuncId}{cap:wN}{t:nS}
theorem Y4{K:Int->Tr}{i m p:Int}{s:Mm}{bt bm bo bi:Nat}(hK:sP b K s f cap B)(hi:i<=s.nodes.length)(hmm:m<=s.nodes.length)(hp:p<=s.nodes.length)(hns:p=0->Ns (K m) s):kL b 190 [pt bt,pt bm,pt bo,pt bi] [.int .i64 p] (bx bt [fn f cap]::bx bm [iv m]::bx bo (iS b t)::bx bi [iv i]::B) s (if p=0 then K m else Kl i m p K):=by
 intro a D A w em ok hm0 hA hB hw0
 subst em
 have hm:a.mm.Small:=hm0.small
 have hK2:=hK.more (B2:=(bx bt [fn f cap]::bx bm [iv m]::bx bo (iS b t)::bx bi [iv i]::B)) (λ x hx=>by simp[hx])
 refine enter Tryz.func190 Tryz.ntmps190 rfl rfl hw0 ?_
 simp only[cP]
 refine J0 ?_;refine aI (λ x6=>?_);refine Kc8 ?_;refine D0 ?_
 refine aU (λ c8=>?_) (λ c8=>?_)
 ·refine J0 ?_;refine aA (iG bt [fn f cap] 0 hB rfl) rfl ?_;refine aA (iG bm [.int .i64 m] 0 hB rfl) rfl ?_;refine aH (Fs hK2.1 (hK2.2 m a.mm (Mm.Le.refl _) hmm (hns (by omega))) ok hm0 hA hB) (λ x11 h11=>?_);refine aL (cE λ _=>aC rf bD rf (bA _) cY rf dI) (λ _=>?_);refine aD ?_
  refine bV Tryz.results190 (λ w hw=>?_)
  refine⟨x11,rfl,⟨?_,h11.2⟩,hw.rN⟩
  rw[if_pos (by omega)]
  exact h11.1
 ·refine Kc1 ?_;refine aA (Jz bo (iS b t) 0 3 hB rfl rfl) rfl ?_;refine aA (iG bi [.int .i64 i] 0 hB rfl) rfl ?_;refine aA (iG bm [.int .i64 m] 0 hB rfl) rfl ?_;refine aB ?_;refine aA (iG bt [fn f cap] 0 hB rfl) rfl ?_;refine aH (kV (λ w1 hw=>Nf hK2 hi hmm hp ok hm hA hB hw)) (λ x17 h17=>?_);refine aL (cE λ _=>aC rf bD rf (bA _) cY rf dI) (λ _=>?_);refine aD ?_
  refine bV Tryz.results190 (λ w hw=>?_)
  refine⟨x17,rfl,⟨?_,h17.2⟩,hw.rN⟩
  rw[if_neg (by omega)]
  exact h17.1
theorem ab{K:Int->Tr}{i m prev:Int}{s:Mm}{bp bt bm bo bi:Nat}(hK:sP b K s f cap B)(hi:i<=s.nodes.length)(hmm:m<=s.nodes.length)(hpr:prev<=9223372036854775807)(hn:(bU s.nodes m).prev=prev)(o:Bool):kL b 189 [pt bp,pt bt,pt bm,pt bo,pt bi] [.bool o] (bx bp [iv prev]::bx bt [fn f cap]::bx bm [iv m]::bx bo (iS b t)::bx bi [iv i]::B) s (fY i m K):=by
 intro a D A w em ok hm0 hA hB hw0
 subst em
 have hm:a.mm.Small:=hm0.small
 refine enter Tryz.func189 Tryz.ntmps189 rfl rfl hw0 ?_
 simp only[cP]
 refine J0 ?_;refine aI (λ x7=>?_);refine Kb4 ?_;refine aA (iG bp [.int .i64 prev] 0 hB rfl) rfl ?_;(refine aA bN rfl ?_);refine aF (cV (hc:=λ w1 hw=>kP _ _ _ w1)) (λ x10=>?_);refine aL (cE λ _=>aC rf bD rf (bA _) cY rf dI) (λ _=>?_);refine aD ?_
 refine bV Tryz.results189 (λ w hw=>?_)
 refine⟨(kO prev _ _,[],a),rfl,⟨⟨hmm,?_⟩,ok,AS.fG.refl a⟩,hw.rI⟩
 dsimp only
 rw[hn]
 exact⟨rfl,hpr,_,_,rfl,by kernel_rfl,λ p s1 l hp hns=>(Y4 (bt:=bt) (bm:=bm) (bo:=bo) (bi:=bi) (hK.le l) (by have hl:a.mm.nodes.length<=s1.nodes.length:=l.len;omega) (by have hl:a.mm.nodes.length<=s1.nodes.length:=l.len;omega) hp (λ e=>by have h:Ns (if p=0 then K m else _) s1:=hns;rw[if_pos e] at h;exact h)).mr (λ y hy=>List.mem_cons_of_mem _ hy)⟩
theorem Z4{cap:List Value}{K:Int->Tr}{i m p prev r:Int}{s:Mm}{bo bi bp bq ba:Nat}(hK:Q0 b (λ _=>fY i m K) s f cap B)(hi:i<=s.nodes.length)(hmm:m<=s.nodes.length)(hp:p<=s.nodes.length)(hr:r<=s.nodes.length)(hn:(bU s.nodes m).prev=prev):kL b 193 [pt bo,pt bi,pt bp,pt bq,pt ba] [.int .i64 r] (bx bo (iS b t)::bx bi [iv i]::bx bp [iv prev]::bx bq [iv p]::bx ba [fn f cap]::B) s (.node r λ nr=>.node i λ ni=>kY i m p (nr.gen==ni.gen) K):=by
 intro a D A w em ok hm0 hA hB hw0
 subst em
 have hm:a.mm.Small:=hm0.small
 have hK2:=hK.more (B2:=(bx bo (iS b t)::bx bi [iv i]::bx bp [iv prev]::bx bq [iv p]::bx ba [fn f cap]::B)) (λ x hx=>by simp[hx])
 have hpr:prev<=a.mm.cs.length:=by rw[<- hn];exact(ok.mo.at m).prev
 refine enter Tryz.func193 Tryz.ntmps193 rfl rfl hw0 ?_
 simp only[cP]
 refine J0 ?_;refine aI (λ x7=>?_);refine pT ?_;refine eG [(0,[]),(1,[]),(2,[]),(5,[]),(6,[]),(7,[]),(3,[6,7]),(4,[]),(8,[]),(9,[]),(10,[]),(11,[])] ?_;refine bM ?_;refine aS (i:=1) (hq:=(iG bo (iS b t) 0 hB rfl)) (h:=?_);refine aR ?_;refine bM ?_;refine aS (i:=6) (hq:=(iG bo (iS b t) 0 hB rfl)) (h:=?_);refine aS (i:=7) (hq:=(iG bi [.int .i64 i] 0 hB rfl)) (h:=?_);refine bS (i:=3) (hq:=(qG r ok hm hA hr)) (hfire:=(λ _=>by(refine eA ?_;(repeat (first|exact aM.nil|refine aM.cons (by first|exact cX (hq:=iG bo (iS b t) 0 hB rfl)|exact cX (hq:=iG bi [.int .i64 i] 0 hB rfl)) ?_));done))) (h:=λ x12 h12=>?_);refine gR ?_;refine bS (i:=8) (hq:=(qG i ok hm hA hi)) (h:=λ x17 h17=>?_);refine gR ?_;refine rE ?_;refine J7 ?_;refine J0 ?_;refine aA (Jz bo (iS b t) 0 3 hB rfl rfl) rfl ?_;refine aA (iG bp [.int .i64 prev] 0 hB rfl) rfl ?_;refine aA (iG bq [.int .i64 p] 0 hB rfl) rfl ?_;refine aB ?_;refine aA (iG ba [fn f cap] 0 hB rfl) rfl ?_;refine aH (kV (λ w1 hw=>Em (K:=λ _=>fY i m K) hK2 hpr hp ok hm hA hB hw)) (λ x25 h25=>?_);refine aL (cE λ _=>aC rf bD rf (bA _) cY rf dI) (λ _=>?_);refine aD ?_
 refine bV Tryz.results193 (λ w hw=>?_)
 refine⟨x25,rfl,⟨⟨hr,hi,?_⟩,h25.2⟩,hw.rN⟩
 rw[eJ,eJ]
 exact Np hmm hn h25.1
set_option maxRecDepth 100000 in
set_option maxHeartbeats 2000000 in
theorem X6{K:Int->Tr}{i m p prev:Int}{s:Mm}{bt bm bo bi bp:Nat}(ht:t.root<=9223372036854775807)(hK:sP b K s f cap B)(hi:i<=s.nodes.length)(hmm:m<=s.nodes.length)(hp:p<=s.nodes.length)(hn:(bU s.nodes m).prev=prev)(hns:p=0->Ns (K m) s):kL b 186 [pt bt,pt bm,pt bo,pt bi,pt bp] [.int .i64 p] (bx bt [fn f cap]::bx bm [iv m]::bx bo (iS b t)::bx bi [iv i]::bx bp [iv prev]::B) s (if p=0 then K m else .node p λ np=>if yU np then(if t.ro=true then kY i m p false K else Dr t λ r=>.node r λ nr=>.node i λ ni=>kY i m p (nr.gen==ni.gen) K) else Kl i m p K):=by
 intro a D A w em ok hm0 hA hB hw0
 subst em
 have hm:a.mm.Small:=hm0.small
 have hK2:=hK.more (B2:=(bx bt [fn f cap]::bx bm [iv m]::bx bo (iS b t)::bx bi [iv i]::bx bp [iv prev]::B)) (λ x hx=>by simp[hx])
 have np:=rA ok p
 have hpr:prev<=a.mm.cs.length:=by rw[<- hn];exact(ok.mo.at m).prev
 have hAg:Q0 b (λ _=>fY i m K) a.mm 189 ⟨[],[.pointer (some ⟨bp,0,none⟩),.pointer (some ⟨bt,0,none⟩),.pointer (some ⟨bm,0,none⟩),.pointer (some ⟨bo,0,none⟩),.pointer (some ⟨bi,0,none⟩)]⟩ (bx bt [fn f cap]::bx bm [iv m]::bx bo (iS b t)::bx bi [iv i]::bx bp [iv prev]::B):=⟨by kernel_rfl,λ o s1 l _=>(ab (t:=t) (prev:=prev) (bp:=bp) (bt:=bt) (bm:=bm) (bo:=bo) (bi:=bi) (hK.le l) (by have hl:a.mm.nodes.length<=s1.nodes.length:=l.len;omega) (by have hl:a.mm.nodes.length<=s1.nodes.length:=l.len;omega) (kI hm hpr) (by rw[l.nd hmm];exact hn) o).mr (λ y hy=>by
  simp only[List.mem_cons] at hy ⊢
  rcases hy with h|h|h|h|h|h<;>simp[h])⟩
 have hRt:∀x6 x8:Nat,sP b (λ r=>.node r λ nr=>.node i λ ni=>kY i m p (nr.gen==ni.gen) K) a.mm 193 ⟨[],[.pointer (some ⟨bo,0,none⟩),.pointer (some ⟨bi,0,none⟩),.pointer (some ⟨bp,0,none⟩),.pointer (some ⟨x6,0,none⟩),.pointer (some ⟨x8,0,none⟩)]⟩ (bx x8 [.func (.func 189) #[] ⟨[.pointer (some ⟨bp,0,none⟩),.pointer (some ⟨bt,0,none⟩),.pointer (some ⟨bm,0,none⟩),.pointer (some ⟨bo,0,none⟩),.pointer (some ⟨bi,0,none⟩)]⟩]::bx x6 [iv p]::(bx bt [fn f cap]::bx bm [iv m]::bx bo (iS b t)::bx bi [iv i]::bx bp [iv prev]::B)):=λ x6 x8=>⟨by kernel_rfl,λ r s1 l hr _=>(Z4 (t:=t) (prev:=prev) (bo:=bo) (bi:=bi) (bp:=bp) (bq:=x6) (ba:=x8) (hAg.le l) (by have hl:a.mm.nodes.length<=s1.nodes.length:=l.len;omega) (by have hl:a.mm.nodes.length<=s1.nodes.length:=l.len;omega) (by have hl:a.mm.nodes.length<=s1.nodes.length:=l.len;omega) hr (by rw[l.nd hmm];exact hn)).mr (λ y hy=>by
  simp only[List.mem_cons] at hy ⊢
  rcases hy with h|h|h|h|h|h<;>simp[h])⟩
 refine enter Tryz.func186 Tryz.ntmps186 rfl rfl hw0 ?_
 simp only[cP]
 refine J0 ?_;refine bF (λ x6=>?_);refine aI (λ x7=>?_);refine pT ?_;refine pV ?_;refine D0 ?_
 refine aU (λ c10=>?_) (λ c10=>?_)
 ·refine J0 ?_;refine aA (iG bt [fn f cap] 0 hB rfl) rfl ?_;refine aA (iG bm [.int .i64 m] 0 hB rfl) rfl ?_;refine aH (Fs hK2.1 (hK2.2 m a.mm (Mm.Le.refl _) hmm (hns (by omega))) ok hm0 hA hB) (λ x13 h13=>?_);refine aL (cE λ _=>aC rf bD rf (bA _) cY rf dI) (λ _=>?_);refine aD ?_
  refine bV Tryz.results186 (λ w hw=>?_)
  refine⟨x13,rfl,⟨?_,h13.2⟩,hw.rN⟩
  rw[if_pos (by omega)]
  exact h13.1
 ·refine lS ?_;refine J0 ?_;refine aK ?_;refine aA (iG bo (iS b t) 0 hB rfl) rfl ?_;refine bP ?_;refine aH (qG p ok hm hA hp) (λ x17 h17=>?_);refine aH (c0 (V:=.bool) (hc:=λ w1 hw=>Vu ((aZ (cN a.L) p).at_ x17.1 x17.2).nd w1)) (λ x18 h18=>?_);refine wO ?_
  refine aU (λ c19=>?_) (λ c19=>?_)
  ·refine J0 ?_;refine aA (Jz bo (iS b t) 0 3 hB rfl rfl) rfl ?_;refine aA (iG bi [.int .i64 i] 0 hB rfl) rfl ?_;refine aA (iG bm [.int .i64 m] 0 hB rfl) rfl ?_;refine bP ?_;refine aA (iG bt [fn f cap] 0 hB rfl) rfl ?_;refine aH (kV (λ w1 hw=>Nf hK2 hi hmm hp ok hm hA hB hw)) (λ x25 h25=>?_);refine aL (cE λ _=>aC rf bD rf (bA _) cY rf dI) (λ _=>?_);refine aD ?_
   refine bV Tryz.results186 (λ w hw=>?_)
   refine⟨x25,rfl,⟨?_,h25.2⟩,hw.rN⟩
   rw[if_neg (by omega)]
   refine⟨hp,?_⟩
   rw[eJ]
   dsimp only
   rw[if_neg (λ hk=>by have h2:=h18.2 hk;rw[h2] at c19;cases c19)]
   exact h25.1
  ·refine Kc1 ?_;(refine aA bN rfl ?_);refine aF (cE λ _=>sW (z:=.nilFunc) (by kernel_rfl) rfl) (λ x8=>?_);refine J5 ?_;refine aJ ?_;refine J0 ?_;refine aK ?_;refine aK ?_;refine aA (iG bo (iS b t) 2 hB rfl) rfl ?_;refine aD ?_
   refine aU (λ c29=>?_) (λ c29=>?_)
   ·refine J0 ?_;refine aA (Jz bo (iS b t) 0 3 hB rfl rfl) rfl ?_;refine aA (iG bp [.int .i64 prev] 0 hB rfl) rfl ?_;refine bP ?_;refine bP ?_;refine aH (kV (λ w1 hw=>Em (K:=λ _=>fY i m K) hAg hpr hp ok hm hA hB hw)) (λ x34 h34=>?_);refine aL (cE λ _=>aC rf bD rf (bA _) cY rf dI) (λ _=>?_);refine aD ?_
    refine bV Tryz.results186 (λ w hw=>?_)
    refine⟨x34,rfl,⟨?_,h34.2⟩,hw.rN⟩
    rw[if_neg (by omega)]
    refine⟨hp,?_⟩
    rw[eJ]
    dsimp only
    rw[if_pos (show yU (aZ (cN a.L) p).c from h18.1 (by simpa using c19)),if_pos c29]
    exact Np hmm hn h34.1
   ·refine tX (λ w h=>(show SF _ _ [_,(b,eN a),(a.u,a.po)] _ [_,_] _ w from(h.cC (.tail (.tail .head))).cC .head)) ?_
    refine Kc1 ?_;refine aA (Jz bo (iS b t) 0 3 hB rfl rfl) rfl ?_;(refine aA bN rfl ?_);refine aH (cM (V:=λ y:Cd×Fr×AS=>.agg ⟨y.1.cells⟩) (hs:=[(b,eN a),(a.u,a.po)]) (os:=fD a) (hs':=λ y=>[(b,eN y.2.2),(y.2.2.u,y.2.2.po)]) (os':=λ y=>fD y.2.2) (Fc:=λ y=>y.2.1) (A0:=bx x8 [.func (.func 189) #[] ⟨[.pointer (some ⟨bp,0,none⟩),.pointer (some ⟨bt,0,none⟩),.pointer (some ⟨bm,0,none⟩),.pointer (some ⟨bo,0,none⟩),.pointer (some ⟨bi,0,none⟩)]⟩]::bx x6 [iv p]::A) (hA:=cA.V4) (hc:=λ w1 hw=>Zb (K:=λ r=>.node r λ nr=>.node i λ ni=>kY i m p (nr.gen==ni.gen) K) (B:=bx x8 [.func (.func 189) #[] ⟨[.pointer (some ⟨bp,0,none⟩),.pointer (some ⟨bt,0,none⟩),.pointer (some ⟨bm,0,none⟩),.pointer (some ⟨bo,0,none⟩),.pointer (some ⟨bi,0,none⟩)]⟩]::bx x6 [iv p]::(bx bt [fn f cap]::bx bm [iv m]::bx bo (iS b t)::bx bi [iv i]::bx bp [iv prev]::B)) ht (hRt x6 x8) ok hm (λ f hf=>List.mem_cons_of_mem _ (List.mem_cons_of_mem _ (hA f hf))) (By hB) hw)) (λ x37 h37=>?_);refine aL (cE λ _=>aC rf bD rf (bA _) cY rf dI) (λ _=>?_);refine aD ?_
    refine bV Tryz.results186 (λ w hw=>?_)
    refine⟨(x37.1,x37.2.1++[bx x8 [.func (.func 189) #[] ⟨[.pointer (some ⟨bp,0,none⟩),.pointer (some ⟨bt,0,none⟩),.pointer (some ⟨bm,0,none⟩),.pointer (some ⟨bo,0,none⟩),.pointer (some ⟨bi,0,none⟩)]⟩],bx x6 [iv p]],x37.2.2),rfl,⟨?_,h37.2.1,h37.2.2.more (λ f hf=>List.mem_append_left _ hf)⟩,hw.rI⟩
    rw[if_neg (by omega)]
    refine⟨hp,?_⟩
    rw[eJ]
    dsimp only
    rw[if_pos (show yU (aZ (cN a.L) p).c from h18.1 (by simpa using c19)),if_neg (by rw[c29];decide)]
    rw[List.append_assoc]
    exact h37.1
theorem Ef{K:Int->Tr}{i m:Int}(ht:t.root<=9223372036854775807)(hK:sP b K a.mm f cap B)(hi:i<=a.mm.nodes.length)(hmm:m<=a.mm.nodes.length)(ok:a.Ok)(hm:a.mm.Small)(hA:∀f∈dV a.L,f∈A)(hB:∀x∈B,x∈A)(hs:SF w D [(b,eN a),(a.u,a.po)] A [] (fD a) w) :
  Calls Tryz.prog 153 #[.agg ⟨iS b t⟩,.int .i64 i,.int .i64 m,fn f cap] w (mS b (λ c' s' B'=>fN b (gC t i m K) a.mm c' s' B') a B D w):=by
 have nm:=rA ok m
 refine enter Tryz.func153 Tryz.ntmps153 rfl rfl hs ?_
 simp only[cP]
 refine J0 ?_;refine bF (λ x4=>?_);refine bF (λ x5=>?_);refine bF (λ x6=>?_);refine bF (λ x7=>?_);refine aI (λ x8=>?_);refine aD ?_;refine jA ?_;refine bP ?_;refine aH (qG m ok hm hA hmm) (λ x13 h13=>?_);refine nF ?_;refine aF (cE λ _=>sW (z:=.int .i64 0) (by kernel_rfl) rfl) (λ x9=>?_);refine J5 ?_;refine pV ?_;(refine aA bN rfl ?_);refine aF (cV (hc:=λ w1 hw=>kP _ _ _ w1)) (λ x17=>?_);refine aL (cE λ _=>aC rf bD rf (bA _) cY rf dI) (λ _=>?_);refine aD ?_
 refine bV Tryz.results153 (λ w hw=>?_)
 refine⟨(kO (aZ (cN a.L) m).nd.prev _ _,[bx x4 (iS b t),bx x5 [iv i],bx x6 [iv m],bx x7 [fn f cap],bx x9 [iv (aZ (cN a.L) m).nd.prev]],a),rfl,⟨⟨hmm,?_⟩,ok,(AS.fG.refl a).more (λ _ h=>(List.not_mem_nil h).elim)⟩,?_⟩
 ·rw[eJ]
  refine⟨rfl,kI hm nm.prev,_,_,rfl,by kernel_rfl,λ p s1 l hp hns=>(X6 (bt:=x7) (bm:=x6) (bo:=x4) (bi:=x5) (bp:=x9) (prev:=(aZ (cN a.L) m).nd.prev) ht (hK.le l) (by have hl:a.mm.nodes.length<=s1.nodes.length:=l.len;omega) (by have hl:a.mm.nodes.length<=s1.nodes.length:=l.len;omega) hp (by rw[l.nd hmm,eJ];rfl) (λ e=>by have h:Ns (if p=0 then K m else _) s1:=hns;rw[if_pos e] at h;exact h)).mr (λ y hy=>?_)⟩
  simp only[List.mem_cons,List.mem_append,List.not_mem_nil,or_false] at hy ⊢
  rcases hy with h|h|h|h|h|h<;>simp[h]
 ·exact(((((hw.cC .head).cC (.tail .head)).cC (.tail .head)).cC (.tail .head)).cC (.tail .head)).rI
end
end

/- gcas: Read, Swap. -/
section
open Go Go.RowKit Go.Ct
section
variable{D:List Nat}{A B:Fr}{a:AS}{b:Nat}{w:World}{f:FuncId}{cap:wN}{t:nS}
theorem Sy{K:Int->Tr}{i m:Int}{s:Mm}{bt bo bi:Nat}(ht:t.root<=9223372036854775807)(hK:sP b K s f cap B)(hi:i<=s.nodes.length)(hmm:m<=s.nodes.length):kL b 152 [pt bo,pt bi,pt bt] [.int .i64 m] (bx bo (iS b t)::bx bi [iv i]::bx bt [fn f cap]::B) s (gC t i m K):=by
 intro a D A w em ok hm0 hA hB hw0
 subst em
 have hm:a.mm.Small:=hm0.small
 have hK2:=hK.more (B2:=(bx bo (iS b t)::bx bi [iv i]::bx bt [fn f cap]::B)) (λ x hx=>by simp[hx])
 refine enter Tryz.func152 Tryz.ntmps152 rfl rfl hw0 ?_
 simp only[cP]
 refine J0 ?_;refine aI (λ x5=>?_);refine Kb4 ?_;refine aA (Jz bo (iS b t) 0 3 hB rfl rfl) rfl ?_;refine aA (iG bi [.int .i64 i] 0 hB rfl) rfl ?_;refine aB ?_;refine aA (iG bt [fn f cap] 0 hB rfl) rfl ?_;refine aH (kV (λ w1 hw=>Ef ht hK2 hi hmm ok hm hA hB hw)) (λ x10 h10=>?_);refine aL (cE λ _=>aC rf bD rf (bA _) cY rf dI) (λ _=>?_);refine aD ?_
 refine bV Tryz.results152 (λ w hw=>?_)
 exact⟨x10,rfl,h10,hw.rN⟩
theorem Gs{K:Int->Tr}{i:Int}(ht:t.root<=9223372036854775807)(hK:sP b K a.mm f cap B)(hi:i<=a.mm.nodes.length)(ok:a.Ok)(hm:a.mm.Small)(hA:∀f∈dV a.L,f∈A)(hB:∀x∈B,x∈A)(hs:SF w D [(b,eN a),(a.u,a.po)] A [] (fD a) w) :
  Calls Tryz.prog 109 #[.agg ⟨iS b t⟩,.int .i64 i,fn f cap] w (mS b (λ c' s' B'=>fN b (nY t i K) a.mm c' s' B') a B D w):=by
 have ni:=rA ok i
 refine enter Tryz.func109 Tryz.ntmps109 rfl rfl hs ?_
 simp only[cP]
 refine J0 ?_;refine bF (λ x3=>?_);refine bF (λ x4=>?_);refine bF (λ x5=>?_);refine aI (λ x6=>?_);refine aD ?_;refine jA ?_;refine bP ?_;refine aH (qG i ok hm hA hi) (λ x10 h10=>?_);refine nF ?_;(refine aA bN rfl ?_);refine aF (cV (hc:=λ w1 hw=>kP _ _ _ w1)) (λ x13=>?_);refine aL (cE λ _=>aC rf bD rf (bA _) cY rf dI) (λ _=>?_);refine aD ?_
 refine bV Tryz.results109 (λ w hw=>?_)
 refine⟨(kO (aZ (cN a.L) i).nd.main _ _,[bx x3 (iS b t),bx x4 [iv i],bx x5 [fn f cap]],a),rfl,⟨⟨hi,?_⟩,ok,(AS.fG.refl a).more (λ _ h=>(List.not_mem_nil h).elim)⟩,?_⟩
 ·rw[eJ]
  exact⟨rfl,kI hm ni.main,_,_,rfl,by kernel_rfl,λ m s1 l hmm _=>Sy (bo:=x3) (bi:=x4) (bt:=x5) ht (hK.le l) (by have hl:a.mm.nodes.length<=s1.nodes.length:=l.len;omega) hmm⟩
 ·exact(((hw.cC (.tail .head)).cC (.tail .head)).cC (.tail .head)).rI
theorem To{K:Bool->Tr}{m n:Int}{s:Mm}{bt bn:Nat}(hK:Q0 b K s f cap B)(hns:Ns (K (m==n)) s):kL b 281 [pt bt,pt bn] [.int .i64 m] (bx bt [fn f cap]::bx bn [iv n]::B) s (K (m==n)):=by
 intro a D A w em ok hm0 hA hB hw0
 subst em
 have hm:a.mm.Small:=hm0.small
 have hK2:=hK.more (B2:=(bx bt [fn f cap]::bx bn [iv n]::B)) (λ x hx=>by simp[hx])
 refine enter Tryz.func281 Tryz.ntmps281 rfl rfl hw0 ?_
 simp only[cP]
 refine J0 ?_;refine aI (λ x4=>?_);refine Kb4 ?_;refine aA (iG bt [fn f cap] 0 hB rfl) rfl ?_;refine aB ?_;refine aA (iG bn [.int .i64 n] 0 hB rfl) rfl ?_;refine fI ?_;refine aH (Fs hK2.1 (hK2.2 (m==n) a.mm (Mm.Le.refl _) hns) ok hm0 hA hB) (λ x9 h9=>?_);refine aL (cE λ _=>aC rf bD rf (bA _) cY rf dI) (λ _=>?_);refine aD ?_
 refine bV Tryz.results281 (λ w hw=>?_)
 exact⟨x9,rfl,h9,hw.rN⟩
theorem Tq{K:Bool->Tr}{i n:Int}{s:Mm}{bt bo bi bn:Nat}(ht:t.root<=9223372036854775807)(hK:Q0 b K s f cap B)(hi:i<=s.nodes.length)(hnn:n<=s.nodes.length)(o:Bool)(hns:o=false->Ns (K false) s):kL b 280 [pt bt,pt bo,pt bi,pt bn] [.bool o] (bx bt [fn f cap]::bx bo (iS b t)::bx bi [iv i]::bx bn [iv n]::B) s (if o=true then gC t i n λ m=>K (m==n) else K false):=by
 intro a D A w em ok hm0 hA hB hw0
 subst em
 have hm:a.mm.Small:=hm0.small
 have hK2:=hK.more (B2:=(bx bt [fn f cap]::bx bo (iS b t)::bx bi [iv i]::bx bn [iv n]::B)) (λ x hx=>by simp[hx])
 have hT:sP b (λ m=>K (m==n)) a.mm 281 ⟨[],[.pointer (some ⟨bt,0,none⟩),.pointer (some ⟨bn,0,none⟩)]⟩ (bx bt [fn f cap]::bx bo (iS b t)::bx bi [iv i]::bx bn [iv n]::B):=⟨by kernel_rfl,λ m s1 l hv hns=>(To (bt:=bt) (bn:=bn) (hK.le l) hns).mr (λ y hy=>by
  simp only[List.mem_cons] at hy ⊢
  rcases hy with h|h|h<;>simp[h])⟩
 refine enter Tryz.func280 Tryz.ntmps280 rfl rfl hw0 ?_
 simp only[cP]
 refine J0 ?_;refine aI (λ x6=>?_);refine Kc8 ?_;refine wO ?_
 refine aU (λ c8=>?_) (λ c8=>?_)
 ·refine J0 ?_;refine aA (iG bt [fn f cap] 0 hB rfl) rfl ?_;refine aH (Fs hK2.1 (hK2.2 false a.mm (Mm.Le.refl _) (hns (by simpa using c8))) ok hm0 hA hB) (λ x10 h10=>?_);refine aL (cE λ _=>aC rf bD rf (bA _) cY rf dI) (λ _=>?_);refine aD ?_
  refine bV Tryz.results280 (λ w hw=>?_)
  refine⟨x10,rfl,⟨?_,h10.2⟩,hw.rN⟩
  rw[if_neg (by rw[show o=false by simpa using c8];decide)]
  exact h10.1
 ·refine Kc1 ?_;refine aA (Jz bo (iS b t) 0 3 hB rfl rfl) rfl ?_;refine aA (iG bi [.int .i64 i] 0 hB rfl) rfl ?_;refine aA (iG bn [.int .i64 n] 0 hB rfl) rfl ?_;(refine aA bN rfl ?_);refine aH (kV (λ w1 hw=>Ef ht hT hi hnn ok hm hA hB hw)) (λ x15 h15=>?_);refine aL (cE λ _=>aC rf bD rf (bA _) cY rf dI) (λ _=>?_);refine aD ?_
  refine bV Tryz.results280 (λ w hw=>?_)
  refine⟨x15,rfl,⟨?_,h15.2⟩,hw.rN⟩
  rw[if_pos (by simpa using c8)]
  exact h15.1
theorem Xq{K:Bool->Tr}{i old n:Int}(ht:t.root<=9223372036854775807)(hK:Q0 b K a.mm f cap B)(hi:i<=a.mm.nodes.length)(hnn:n<=a.mm.nodes.length)(ok:a.Ok)(hm:a.mm.Small)(hA:∀f∈dV a.L,f∈A)(hB:∀x∈B,x∈A)(hs:SF w D [(b,eN a),(a.u,a.po)] A [] (fD a) w) :
  Calls Tryz.prog 252 #[.agg ⟨iS b t⟩,.int .i64 i,.int .i64 old,.int .i64 n,fn f cap] w (mS b (λ c' s' B'=>fN b (qR t i old n K) a.mm c' s' B') a B D w):=by
 have ni:=rA ok i
 refine enter Tryz.func252 Tryz.ntmps252 rfl rfl hs ?_
 simp only[cP]
 refine J0 ?_;refine bF (λ x5=>?_);refine bF (λ x6=>?_);refine bF (λ x8=>?_);refine bF (λ x9=>?_);refine aI (λ x10=>?_);refine pT ?_;refine eG [(0,[]),(1,[]),(2,[]),(5,[]),(6,[]),(7,[]),(3,[6]),(4,[]),(8,[]),(9,[])] ?_;refine gY ?_;refine cB ?_;refine aR ?_;refine cB ?_;(refine cZ (i:=7) (hq:=bN) (h:=?_));refine bS (i:=3) (hq:=(qG i ok hm hA hi)) (h:=λ x14 h14=>?_);refine gR ?_;refine bZ (i:=8) (hq:=(cV (hc:=λ w1 hw=>oZ _ _ _ _ _ w1))) (h:=λ x19=>?_);refine fE (i:=9) (hq:=(cE λ _=>aC rf bD rf (bA _) cY rf dI)) (h:=λ _=>?_);refine dC ?_
 refine bV Tryz.results252 (λ w hw=>?_)
 refine⟨(pG (aZ (cN a.L) i).nd.main old n _ _,[bx x5 (iS b t),bx x6 [iv i],bx x8 [iv n],bx x9 [fn f cap]],a),rfl,⟨⟨hi,?_⟩,ok,(AS.fG.refl a).more (λ _ h=>(List.not_mem_nil h).elim)⟩,?_⟩
 ·rw[eJ]
  refine⟨rfl,kI hm ni.main,hnn,_,_,rfl,by kernel_rfl,λ o s1 l hns=>(Tq (bt:=x9) (bo:=x5) (bi:=x6) (bn:=x8) ht (hK.le l) (by have hl:a.mm.nodes.length<=s1.nodes.length:=l.len;omega) (by have hl:a.mm.nodes.length<=s1.nodes.length:=l.len;omega) o (λ e=>by have h:Ns (if o=true then _ else K false) s1:=hns;rw[if_neg (by rw[e];decide)] at h;exact h)).mr (λ y hy=>?_)⟩
  simp only[List.mem_cons,List.mem_append,List.not_mem_nil,or_false] at hy ⊢
  rcases hy with h|h|h|h|h<;>simp[h]
 ·exact((((hw.cC (.tail .head)).cC (.tail .head)).cC (.tail .head)).cC (.tail .head)).rI
end
end

/- Hash values of keys. -/
end Go.Proofs.YtnilhhnfjfdokaaGreatDoor
namespace Go.Ct
section
open Go Go.RowKit
def ny(s:ByteArray)(i:Nat):Nat:=(s.data.getD i 0).toNat
theorem Tn(s:ByteArray)(i:Nat):ny s i<256:=(s.data.getD i 0).toNat_lt
def o7(s:ByteArray):Nat->Nat
 | 0=>14695981039346656037
 | i+1=>((o7 s i ^^^ ny s i)*1099511628211)%18446744073709551616
theorem L1(s:ByteArray):∀i,o7 s i<18446744073709551616
 | 0=>by show 14695981039346656037<18446744073709551616;decide
 | _+1=>Nat.mod_lt _ (by decide)
def lU(s:ByteArray)(m:Nat):Nat:=o7 s s.size &&& m
theorem K8(s:ByteArray)(m:Nat):lU s m<18446744073709551616:=Nat.lt_of_le_of_lt Nat.and_le_left (L1 s _)
section
variable{P:Program}{S:List (Nat×Value)}{G:World->Prop}{d:Nat}{ty t t':TypeId}{pos:String}{af:Array Edge}{gd:Option (Nat×Bool)}{x y:Operand}{a b i:Nat}{s:ByteArray}
theorem j5(hx:ev S x=.string s)(hy:ev S y=.int .i64 (i:Int))(ht:P.underlying t=some .string)(h:i<s.size):aG P S G ⟨some d,.index t x y,ty,pos,af,gd⟩ (.int .u8 (ny s i:Int)):=⟨λ w _=>by
 have e:(s[((i:Nat):Int).toNat]'(by simpa using h)).toNat=ny s i:=by
  unfold ny
  rw[Array.getD_eq_getD_getElem?,Array.getElem?_eq_getElem (by simpa using h)]
  rfl
 simp only[execOp,hx,hy,Sem.run_bind]
 rw[run_index_string w t s .i64 i ht,dif_pos ⟨pR _,by omega⟩,e]
 rfl⟩
theorem du(hx:ev S x=.int .u64 (a:Int))(hy:ev S y=.int .u64 (b:Int))(ha:a<18446744073709551616)(hb:b<18446744073709551616):aG P S G ⟨some d,.binOp .xor t x y t',ty,pos,af,gd⟩ (.int .u64 ((a ^^^ b:Nat):Int)):=by
 have:=lz (P:=P) (G:=G) (d:=d) (ty:=ty) (pos:=pos) (af:=af) (gd:=gd) (t:=t) (t':=t') hx hy
 rwa [Uz ha hb] at this
theorem ft(hx:ev S x=.int .u64 (a:Int))(hy:ev S y=.int .u64 (b:Int)):aG P S G ⟨some d,.binOp .mul t x y t',ty,pos,af,gd⟩ (.int .u64 ((a*b%18446744073709551616:Nat):Int)):=by
 have:=Se (P:=P) (G:=G) (d:=d) (ty:=ty) (pos:=pos) (af:=af) (gd:=gd) (t:=t) (t':=t') hx hy
 have e:IntKind.u64.wrap ((a:Int)*(b:Int))=((a*b%18446744073709551616:Nat):Int):=by
  rw[<- Int.natCast_mul,wrap_u64]
  generalize a*b=q
  omega
 rwa [e] at this
end
end
end Go.Ct
namespace Go.Proofs.YtnilhhnfjfdokaaGreatDoor
section
open Go Go.RowKit Go.Ct
end

end Go.Proofs.YtnilhhnfjfdokaaGreatDoor
