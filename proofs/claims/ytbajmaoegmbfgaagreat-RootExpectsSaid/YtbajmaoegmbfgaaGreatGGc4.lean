/- gcas: settle. -/
import Derived.Test.YtbajmaoegmbfgaaGreatGGc1
import Derived.Test.YtbajmaoegmbfgaaGreatGTm2

set_option linter.unusedSimpArgs false
set_option linter.unusedVariables false
namespace Go.Proofs.YtbajmaoegmbfgaaGreat
section
open Go Go.RowKit Go.Ct
theorem S7{b:Nat}{i m p prev:Int}{c:Bool}{K:Int->Tr}{s s2:Mm}{cd:Cd}{B:Fr}(hmm:m<=s.nodes.length)(hn:(bF s.nodes m).prev=prev)(h:kR b (ig prev p c λ _=>jQ i m K) s cd s2 B):kR b (oG i m p c K) s cd s2 B:=by
 subst hn
 unfold ig at h
 unfold oG
 split
 ·rename_i hc
  rw[if_pos hc] at h
  exact⟨hmm,h⟩
 ·rename_i hc
  rw[if_neg hc] at h
  exact⟨hmm,h⟩
section
variable{D:List Nat}{A B:Fr}{a:AS}{b:Nat}{w:World}{f:FuncId}{cap:List Value}{t:dM}
theorem ls{K:Int->Tr}{i m p:Int}{s:Mm}{bt bm bo bi:Nat}(hK:Dt b K s f cap B)(hi:i<=s.nodes.length)(hmm:m<=s.nodes.length)(hp:p<=s.nodes.length):rM b 165 [pt bt,pt bm,pt bo,pt bi] [.int .i64 p] (bx bt [fn f cap]::bx bm [iv m]::bx bo (lC b t)::bx bi [iv i]::B) s (if p=0 then K m else Li i m p K):=by
 intro a D A w em ok hm hA hB hw0
 subst em
 have hK2:=hK.more (B2:=(bx bt [fn f cap]::bx bm [iv m]::bx bo (lC b t)::bx bi [iv i]::B)) (λ x hx=>by simp[hx])
 refine enter Tryz.func165 Tryz.ntmps165 rfl rfl hw0 ?_
 simp only[cD]
 refine J0 ?_;refine aJ (λ x6=>?_);refine aG ?_;refine mD ?_;refine tS ?_
 refine bC (λ c8=>?_) (λ c8=>?_)
 ·refine J0 ?_;refine aB (pA bt [fn f cap] 0 hB rfl) rfl ?_;refine aB (pA bm [.int .i64 m] 0 hB rfl) rfl ?_;refine aD (Og hK2.1 (hK2.2 m a.mm (Mm.Le.refl _) hmm) ok hm hA hB) (λ x11 h11=>?_);refine cI (gS λ _=>bE rf cX rf (dA _) eH rf jV) (λ _=>?_);refine aG ?_
  refine bA Tryz.results165 (λ w hw=>?_)
  refine⟨x11,rfl,⟨?_,h11.2⟩,hw.rN⟩
  rw[if_pos (by omega)]
  exact h11.1
 ·refine aV ?_;refine J0 ?_;refine aB (Xx bo (lC b t) 0 3 hB rfl rfl) rfl ?_;refine aB (pA bi [.int .i64 i] 0 hB rfl) rfl ?_;refine aB (pA bm [.int .i64 m] 0 hB rfl) rfl ?_;refine aA ?_;refine aB (pA bt [fn f cap] 0 hB rfl) rfl ?_;refine aD (K4 (λ w1 hw=>Uy hK2 hi hmm hp ok hm hA hB hw)) (λ x17 h17=>?_);refine cI (gS λ _=>bE rf cX rf (dA _) eH rf jV) (λ _=>?_);refine aG ?_
  refine bA Tryz.results165 (λ w hw=>?_)
  refine⟨x17,rfl,⟨?_,h17.2⟩,hw.rN⟩
  rw[if_neg (by omega)]
  exact h17.1
theorem o7{K:Int->Tr}{i m prev:Int}{s:Mm}{bp bt bm bo bi:Nat}(hK:Dt b K s f cap B)(hi:i<=s.nodes.length)(hmm:m<=s.nodes.length)(hpr:prev<=9223372036854775807)(hn:(bF s.nodes m).prev=prev)(o:Bool):rM b 164 [pt bp,pt bt,pt bm,pt bo,pt bi] [.bool o] (bx bp [iv prev]::bx bt [fn f cap]::bx bm [iv m]::bx bo (lC b t)::bx bi [iv i]::B) s (jQ i m K):=by
 intro a D A w em ok hm hA hB hw0
 subst em
 refine enter Tryz.func164 Tryz.ntmps164 rfl rfl hw0 ?_
 simp only[cD]
 refine J0 ?_;refine aJ (λ x7=>?_);refine aG ?_;refine J0 ?_;refine aB (pA bp [.int .i64 prev] 0 hB rfl) rfl ?_;(refine aB cL rfl ?_);refine aM (cV (hc:=λ w1 hw=>sZ _ _ _ w1)) (λ x10=>?_);refine cI (gS λ _=>bE rf cX rf (dA _) eH rf jV) (λ _=>?_);refine aG ?_
 refine bA Tryz.results164 (λ w hw=>?_)
 refine⟨(qP prev _ _,[],a),rfl,⟨⟨hmm,?_⟩,ok,AS.iF.refl a⟩,hw.rI⟩
 dsimp only
 rw[hn]
 exact⟨rfl,hpr,_,_,rfl,by kernel_rfl,λ p s1 l hp=>(ls (bt:=bt) (bm:=bm) (bo:=bo) (bi:=bi) (hK.le l) (by have:=l.len;omega) (by have:=l.len;omega) hp).mr (λ y hy=>List.mem_cons_of_mem _ hy)⟩
theorem oi{K:Int->Tr}{i m p prev r:Int}{s:Mm}{bo bi bp bq ba:Nat}(hK:Rk b (λ _=>jQ i m K) s f cap B)(hi:i<=s.nodes.length)(hmm:m<=s.nodes.length)(hp:p<=s.nodes.length)(hr:r<=s.nodes.length)(hn:(bF s.nodes m).prev=prev):rM b 168 [pt bo,pt bi,pt bp,pt bq,pt ba] [.int .i64 r] (bx bo (lC b t)::bx bi [iv i]::bx bp [iv prev]::bx bq [iv p]::bx ba [fn f cap]::B) s (.node r λ nr=>.node i λ ni=>oG i m p (nr.gen==ni.gen) K):=by
 intro a D A w em ok hm hA hB hw0
 subst em
 have hK2:=hK.more (B2:=(bx bo (lC b t)::bx bi [iv i]::bx bp [iv prev]::bx bq [iv p]::bx ba [fn f cap]::B)) (λ x hx=>by simp[hx])
 have hpr:prev<=a.mm.cs.length:=by rw[<- hn];exact(ok.mo.at m).prev
 refine enter Tryz.func168 Tryz.ntmps168 rfl rfl hw0 ?_
 simp only[cD]
 refine J0 ?_;refine aJ (λ x7=>?_);refine S2 ?_;refine eM [(0,[]),(1,[]),(2,[]),(5,[]),(6,[]),(7,[]),(3,[6,7]),(4,[]),(8,[]),(9,[]),(10,[]),(11,[])] ?_;refine aS ?_;refine bW (i:=1) (hq:=(pA bo (lC b t) 0 hB rfl)) (h:=?_);refine bB ?_;refine aS ?_;refine bW (i:=6) (hq:=(pA bo (lC b t) 0 hB rfl)) (h:=?_);refine bW (i:=7) (hq:=(pA bi [.int .i64 i] 0 hB rfl)) (h:=?_);refine bG (i:=3) (hq:=(L7 r ok hm hA hr)) (hfire:=(λ _=>by(refine jX ?_;(repeat (first|exact aT.nil|refine aT.cons (by first|exact iV (hq:=pA bo (lC b t) 0 hB rfl)|exact iV (hq:=pA bi [.int .i64 i] 0 hB rfl)) ?_));done))) (h:=λ x12 h12=>?_);refine qK ?_;refine bG (i:=8) (hq:=(L7 i ok hm hA hi)) (h:=λ x17 h17=>?_);refine qK ?_;refine nK ?_;refine J7 ?_;refine J0 ?_;refine aB (Xx bo (lC b t) 0 3 hB rfl rfl) rfl ?_;refine aB (pA bp [.int .i64 prev] 0 hB rfl) rfl ?_;refine aB (pA bq [.int .i64 p] 0 hB rfl) rfl ?_;refine aA ?_;refine aB (pA ba [fn f cap] 0 hB rfl) rfl ?_;refine aD (K4 (λ w1 hw=>Iy (K:=λ _=>jQ i m K) hK2 hpr hp ok hm hA hB hw)) (λ x25 h25=>?_);refine cI (gS λ _=>bE rf cX rf (dA _) eH rf jV) (λ _=>?_);refine aG ?_
 refine bA Tryz.results168 (λ w hw=>?_)
 refine⟨x25,rfl,⟨⟨hr,hi,?_⟩,h25.2⟩,hw.rN⟩
 rw[kL,kL]
 exact S7 hmm hn h25.1
set_option maxRecDepth 100000 in
set_option maxHeartbeats 2000000 in
theorem p9{K:Int->Tr}{i m p prev:Int}{s:Mm}{bt bm bo bi bp:Nat}(ht:t.root<=9223372036854775807)(hK:Dt b K s f cap B)(hi:i<=s.nodes.length)(hmm:m<=s.nodes.length)(hp:p<=s.nodes.length)(hn:(bF s.nodes m).prev=prev):rM b 162 [pt bt,pt bm,pt bo,pt bi,pt bp] [.int .i64 p] (bx bt [fn f cap]::bx bm [iv m]::bx bo (lC b t)::bx bi [iv i]::bx bp [iv prev]::B) s (if p=0 then K m else .node p λ np=>if bX np then(if t.ro=true then oG i m p false K else Ei t λ r=>.node r λ nr=>.node i λ ni=>oG i m p (nr.gen==ni.gen) K) else Li i m p K):=by
 intro a D A w em ok hm hA hB hw0
 subst em
 have hK2:=hK.more (B2:=(bx bt [fn f cap]::bx bm [iv m]::bx bo (lC b t)::bx bi [iv i]::bx bp [iv prev]::B)) (λ x hx=>by simp[hx])
 have np:=Fb ok p
 have hpr:prev<=a.mm.cs.length:=by rw[<- hn];exact(ok.mo.at m).prev
 have hAg:Rk b (λ _=>jQ i m K) a.mm 164 [.pointer (some ⟨bp,0,none⟩),.pointer (some ⟨bt,0,none⟩),.pointer (some ⟨bm,0,none⟩),.pointer (some ⟨bo,0,none⟩),.pointer (some ⟨bi,0,none⟩)] (bx bt [fn f cap]::bx bm [iv m]::bx bo (lC b t)::bx bi [iv i]::bx bp [iv prev]::B):=⟨by kernel_rfl,λ o s1 l=>(o7 (t:=t) (prev:=prev) (bp:=bp) (bt:=bt) (bm:=bm) (bo:=bo) (bi:=bi) (hK.le l) (by have:=l.len;omega) (by have:=l.len;omega) (oP hm hpr) (by rw[l.nd hmm];exact hn) o).mr (λ y hy=>by
  simp only[List.mem_cons] at hy ⊢
  rcases hy with h|h|h|h|h|h<;>simp[h])⟩
 have hRt:∀x6 x8:Nat,Dt b (λ r=>.node r λ nr=>.node i λ ni=>oG i m p (nr.gen==ni.gen) K) a.mm 168 [.pointer (some ⟨bo,0,none⟩),.pointer (some ⟨bi,0,none⟩),.pointer (some ⟨bp,0,none⟩),.pointer (some ⟨x6,0,none⟩),.pointer (some ⟨x8,0,none⟩)] (bx x8 [.func (.func 164) #[] ⟨[.pointer (some ⟨bp,0,none⟩),.pointer (some ⟨bt,0,none⟩),.pointer (some ⟨bm,0,none⟩),.pointer (some ⟨bo,0,none⟩),.pointer (some ⟨bi,0,none⟩)]⟩]::bx x6 [iv p]::(bx bt [fn f cap]::bx bm [iv m]::bx bo (lC b t)::bx bi [iv i]::bx bp [iv prev]::B)):=λ x6 x8=>⟨by kernel_rfl,λ r s1 l hr=>(oi (t:=t) (prev:=prev) (bo:=bo) (bi:=bi) (bp:=bp) (bq:=x6) (ba:=x8) (hAg.le l) (by have:=l.len;omega) (by have:=l.len;omega) (by have:=l.len;omega) hr (by rw[l.nd hmm];exact hn)).mr (λ y hy=>by
  simp only[List.mem_cons] at hy ⊢
  rcases hy with h|h|h|h|h|h<;>simp[h])⟩
 refine enter Tryz.func162 Tryz.ntmps162 rfl rfl hw0 ?_
 simp only[cD]
 refine J0 ?_;refine bO (λ x6=>?_);refine aJ (λ x7=>?_);refine S2 ?_;refine oI ?_;refine tS ?_
 refine bC (λ c10=>?_) (λ c10=>?_)
 ·refine J0 ?_;refine aB (pA bt [fn f cap] 0 hB rfl) rfl ?_;refine aB (pA bm [.int .i64 m] 0 hB rfl) rfl ?_;refine aD (Og hK2.1 (hK2.2 m a.mm (Mm.Le.refl _) hmm) ok hm hA hB) (λ x13 h13=>?_);refine cI (gS λ _=>bE rf cX rf (dA _) eH rf jV) (λ _=>?_);refine aG ?_
  refine bA Tryz.results162 (λ w hw=>?_)
  refine⟨x13,rfl,⟨?_,h13.2⟩,hw.rN⟩
  rw[if_pos (by omega)]
  exact h13.1
 ·refine lI ?_;refine Ka9 ?_;refine aB (pA bo (lC b t) 0 hB rfl) rfl ?_;refine bP ?_;refine aD (L7 p ok hm hA hp) (λ x17 h17=>?_);refine aD (c0 (V:=.bool) (hc:=λ w1 hw=>Qj ((aC (dJ a.L) p).at_ x17.1 x17.2).nd w1)) (λ x18 h18=>?_);refine pD ?_
  refine bC (λ c19=>?_) (λ c19=>?_)
  ·refine J0 ?_;refine aB (Xx bo (lC b t) 0 3 hB rfl rfl) rfl ?_;refine aB (pA bi [.int .i64 i] 0 hB rfl) rfl ?_;refine aB (pA bm [.int .i64 m] 0 hB rfl) rfl ?_;refine bP ?_;refine aB (pA bt [fn f cap] 0 hB rfl) rfl ?_;refine aD (K4 (λ w1 hw=>Uy hK2 hi hmm hp ok hm hA hB hw)) (λ x25 h25=>?_);refine cI (gS λ _=>bE rf cX rf (dA _) eH rf jV) (λ _=>?_);refine aG ?_
   refine bA Tryz.results162 (λ w hw=>?_)
   refine⟨x25,rfl,⟨?_,h25.2⟩,hw.rN⟩
   rw[if_neg (by omega)]
   refine⟨hp,?_⟩
   rw[kL]
   dsimp only
   rw[if_neg (λ hk=>by have h2:=h18.2 hk;rw[h2] at c19;cases c19)]
   exact h25.1
  ·refine aV ?_;refine J0 ?_;(refine aB cL rfl ?_);refine aM (gS λ _=>Ee (z:=.nilFunc) (by kernel_rfl) rfl) (λ x8=>?_);refine J5 ?_;refine aR ?_;refine Ka9 ?_;refine aE ?_;refine aB (pA bo (lC b t) 2 hB rfl) rfl ?_;refine aG ?_
   refine bC (λ c29=>?_) (λ c29=>?_)
   ·refine J0 ?_;refine aB (Xx bo (lC b t) 0 3 hB rfl rfl) rfl ?_;refine aB (pA bp [.int .i64 prev] 0 hB rfl) rfl ?_;refine bP ?_;refine bP ?_;refine aD (K4 (λ w1 hw=>Iy (K:=λ _=>jQ i m K) hAg hpr hp ok hm hA hB hw)) (λ x34 h34=>?_);refine cI (gS λ _=>bE rf cX rf (dA _) eH rf jV) (λ _=>?_);refine aG ?_
    refine bA Tryz.results162 (λ w hw=>?_)
    refine⟨x34,rfl,⟨?_,h34.2⟩,hw.rN⟩
    rw[if_neg (by omega)]
    refine⟨hp,?_⟩
    rw[kL]
    dsimp only
    rw[if_pos (show bX (aC (dJ a.L) p).c from h18.1 (by simpa using c19)),if_pos c29]
    exact S7 hmm hn h34.1
   ·refine Yo (λ w h=>(show SF _ _ [_,(b,eS a)] _ [_,_] _ w from(h.dF (.tail (.tail .head))).dF .head)) ?_
    refine aV ?_;refine J0 ?_;refine aB (Xx bo (lC b t) 0 3 hB rfl rfl) rfl ?_;(refine aB cL rfl ?_);refine aD (cM (V:=λ y:Cd×Fr×AS=>.agg ⟨y.1.cells⟩) (hs:=[(b,eS a)]) (os:=eX a) (hs':=λ y=>[(b,eS y.2.2)]) (os':=λ y=>eX y.2.2) (Fc:=λ y=>y.2.1) (A0:=bx x8 [.func (.func 164) #[] ⟨[.pointer (some ⟨bp,0,none⟩),.pointer (some ⟨bt,0,none⟩),.pointer (some ⟨bm,0,none⟩),.pointer (some ⟨bo,0,none⟩),.pointer (some ⟨bi,0,none⟩)]⟩]::bx x6 [iv p]::A) (hA:=bJ.Z9) (hc:=λ w1 hw=>k9 (K:=λ r=>.node r λ nr=>.node i λ ni=>oG i m p (nr.gen==ni.gen) K) (B:=bx x8 [.func (.func 164) #[] ⟨[.pointer (some ⟨bp,0,none⟩),.pointer (some ⟨bt,0,none⟩),.pointer (some ⟨bm,0,none⟩),.pointer (some ⟨bo,0,none⟩),.pointer (some ⟨bi,0,none⟩)]⟩]::bx x6 [iv p]::(bx bt [fn f cap]::bx bm [iv m]::bx bo (lC b t)::bx bi [iv i]::bx bp [iv prev]::B)) ht (hRt x6 x8) ok hm (λ f hf=>List.mem_cons_of_mem _ (List.mem_cons_of_mem _ (hA f hf))) (Gf hB) hw)) (λ x37 h37=>?_);refine cI (gS λ _=>bE rf cX rf (dA _) eH rf jV) (λ _=>?_);refine aG ?_
    refine bA Tryz.results162 (λ w hw=>?_)
    refine⟨(x37.1,x37.2.1++[bx x8 [.func (.func 164) #[] ⟨[.pointer (some ⟨bp,0,none⟩),.pointer (some ⟨bt,0,none⟩),.pointer (some ⟨bm,0,none⟩),.pointer (some ⟨bo,0,none⟩),.pointer (some ⟨bi,0,none⟩)]⟩],bx x6 [iv p]],x37.2.2),rfl,⟨?_,h37.2.1,h37.2.2.more (λ f hf=>List.mem_append_left _ hf)⟩,hw.rI⟩
    rw[if_neg (by omega)]
    refine⟨hp,?_⟩
    rw[kL]
    dsimp only
    rw[if_pos (show bX (aC (dJ a.L) p).c from h18.1 (by simpa using c19)),if_neg (by rw[c29];decide)]
    rw[List.append_assoc]
    exact h37.1
theorem Wo{K:Int->Tr}{i m:Int}(ht:t.root<=9223372036854775807)(hK:Dt b K a.mm f cap B)(hi:i<=a.mm.nodes.length)(hmm:m<=a.mm.nodes.length)(ok:a.Ok)(hm:a.mm.Small)(hA:∀f∈aL a.L,f∈A)(hB:∀x∈B,x∈A)(hs:SF w D [(b,eS a)] A [] (eX a) w) :
  Calls Tryz.prog 121 #[.agg ⟨lC b t⟩,.int .i64 i,.int .i64 m,fn f cap] w (Bf b (λ c' s' B'=>kR b (oN t i m K) a.mm c' s' B') a B D w):=by
 have nm:=Fb ok m
 refine enter Tryz.func121 Tryz.ntmps121 rfl rfl hs ?_
 simp only[cD]
 refine J0 ?_;refine bO (λ x4=>?_);refine bO (λ x5=>?_);refine bO (λ x6=>?_);refine bO (λ x7=>?_);refine aJ (λ x8=>?_);refine aG ?_;refine gP ?_;refine bP ?_;refine aD (L7 m ok hm hA hmm) (λ x13 h13=>?_);refine cE ?_;refine aM (gS λ _=>Ee (z:=.int .i64 0) (by kernel_rfl) rfl) (λ x9=>?_);refine J5 ?_;refine oI ?_;(refine aB cL rfl ?_);refine aM (cV (hc:=λ w1 hw=>sZ _ _ _ w1)) (λ x17=>?_);refine cI (gS λ _=>bE rf cX rf (dA _) eH rf jV) (λ _=>?_);refine aG ?_
 refine bA Tryz.results121 (λ w hw=>?_)
 refine⟨(qP (aC (dJ a.L) m).nd.prev _ _,[bx x4 (lC b t),bx x5 [iv i],bx x6 [iv m],bx x7 [fn f cap],bx x9 [iv (aC (dJ a.L) m).nd.prev]],a),rfl,⟨⟨hmm,?_⟩,ok,(AS.iF.refl a).more (λ _ h=>(List.not_mem_nil h).elim)⟩,?_⟩
 ·rw[kL]
  refine⟨rfl,oP hm nm.prev,_,_,rfl,by kernel_rfl,λ p s1 l hp=>(p9 (bt:=x7) (bm:=x6) (bo:=x4) (bi:=x5) (bp:=x9) (prev:=(aC (dJ a.L) m).nd.prev) ht (hK.le l) (by have:=l.len;omega) (by have:=l.len;omega) hp (by rw[l.nd hmm,kL];rfl)).mr (λ y hy=>?_)⟩
  simp only[List.mem_cons,List.mem_append,List.not_mem_nil,or_false] at hy ⊢
  rcases hy with h|h|h|h|h|h<;>simp[h]
 ·exact(((((hw.dF .head).dF (.tail .head)).dF (.tail .head)).dF (.tail .head)).dF (.tail .head)).rI
end
end

/- gcas: Read, Swap. -/
section
open Go Go.RowKit Go.Ct
section
variable{D:List Nat}{A B:Fr}{a:AS}{b:Nat}{w:World}{f:FuncId}{cap:List Value}{t:dM}
theorem Zt{K:Int->Tr}{i m:Int}{s:Mm}{bt bo bi:Nat}(ht:t.root<=9223372036854775807)(hK:Dt b K s f cap B)(hi:i<=s.nodes.length)(hmm:m<=s.nodes.length):rM b 131 [pt bo,pt bi,pt bt] [.int .i64 m] (bx bo (lC b t)::bx bi [iv i]::bx bt [fn f cap]::B) s (oN t i m K):=by
 intro a D A w em ok hm hA hB hw0
 subst em
 have hK2:=hK.more (B2:=(bx bo (lC b t)::bx bi [iv i]::bx bt [fn f cap]::B)) (λ x hx=>by simp[hx])
 refine enter Tryz.func131 Tryz.ntmps131 rfl rfl hw0 ?_
 simp only[cD]
 refine J0 ?_;refine aJ (λ x5=>?_);refine aG ?_;refine J0 ?_;refine aB (Xx bo (lC b t) 0 3 hB rfl rfl) rfl ?_;refine aB (pA bi [.int .i64 i] 0 hB rfl) rfl ?_;refine aA ?_;refine aB (pA bt [fn f cap] 0 hB rfl) rfl ?_;refine aD (K4 (λ w1 hw=>Wo ht hK2 hi hmm ok hm hA hB hw)) (λ x10 h10=>?_);refine cI (gS λ _=>bE rf cX rf (dA _) eH rf jV) (λ _=>?_);refine aG ?_
 refine bA Tryz.results131 (λ w hw=>?_)
 exact⟨x10,rfl,h10,hw.rN⟩
theorem pq{K:Int->Tr}{i:Int}(ht:t.root<=9223372036854775807)(hK:Dt b K a.mm f cap B)(hi:i<=a.mm.nodes.length)(ok:a.Ok)(hm:a.mm.Small)(hA:∀f∈aL a.L,f∈A)(hB:∀x∈B,x∈A)(hs:SF w D [(b,eS a)] A [] (eX a) w) :
  Calls Tryz.prog 88 #[.agg ⟨lC b t⟩,.int .i64 i,fn f cap] w (Bf b (λ c' s' B'=>kR b (lG t i K) a.mm c' s' B') a B D w):=by
 have ni:=Fb ok i
 refine enter Tryz.func88 Tryz.ntmps88 rfl rfl hs ?_
 simp only[cD]
 refine J0 ?_;refine bO (λ x3=>?_);refine bO (λ x4=>?_);refine bO (λ x5=>?_);refine aJ (λ x6=>?_);refine aG ?_;refine gP ?_;refine bP ?_;refine aD (L7 i ok hm hA hi) (λ x10 h10=>?_);refine cE ?_;(refine aB cL rfl ?_);refine aM (cV (hc:=λ w1 hw=>sZ _ _ _ w1)) (λ x13=>?_);refine cI (gS λ _=>bE rf cX rf (dA _) eH rf jV) (λ _=>?_);refine aG ?_
 refine bA Tryz.results88 (λ w hw=>?_)
 refine⟨(qP (aC (dJ a.L) i).nd.main _ _,[bx x3 (lC b t),bx x4 [iv i],bx x5 [fn f cap]],a),rfl,⟨⟨hi,?_⟩,ok,(AS.iF.refl a).more (λ _ h=>(List.not_mem_nil h).elim)⟩,?_⟩
 ·rw[kL]
  exact⟨rfl,oP hm ni.main,_,_,rfl,by kernel_rfl,λ m s1 l hmm=>Zt (bo:=x3) (bi:=x4) (bt:=x5) ht (hK.le l) (by have:=l.len;omega) hmm⟩
 ·exact(((hw.dF (.tail .head)).dF (.tail .head)).dF (.tail .head)).rI
end
end

/- root: decide. -/
end Go.Proofs.YtbajmaoegmbfgaaGreat
namespace Go.Ct
section
open Go Go.RowKit
theorem bD.pre{P:Program}{S:List (Nat×Value)}{G G2:World->Prop}{o:Oper}{X:Type}{V:X->Value}{G':X->World->Prop}(h:∀w,G w->G2 w)(hl:bD P S G2 o X V G'):bD P S G o X V G':=⟨λ w hw=>hl.run w (h w hw)⟩
end
end Go.Ct
namespace Go.Proofs.YtbajmaoegmbfgaaGreat
section
open Go Go.RowKit Go.Ct
section
variable{D:List Nat}{A B:Fr}{a:AS}{b:Nat}{w:World}{f:FuncId}{cap:List Value}{t:dM}
theorem Uj{Kt:Tr}{s:Mm}{b5:Nat}(hK:Wc b Kt s f cap B)(o:Bool):rM b 173 [pt b5] [.bool o] (bx b5 [fn f cap]::B) s (Kt):=by
 intro a D A w em ok hm hA hB hw0
 subst em
 have hK2:=hK.more (B2:=(bx b5 [fn f cap]::B)) (λ x hx=>by simp[hx])
 refine enter Tryz.func173 Tryz.ntmps173 rfl rfl hw0 ?_
 simp only[cD]
 refine J0 ?_;refine aJ (λ x3=>?_);refine aG ?_;refine J0 ?_;refine aB (pA b5 [fn f cap] 0 hB rfl) rfl ?_;refine aD (Og hK2.1 (hK2.2 a.mm (Mm.Le.refl _)) ok hm hA hB) (λ x5 h5=>?_);refine cI (gS λ _=>bE rf cX rf (dA _) eH rf jV) (λ _=>?_);refine aG ?_
 refine bA Tryz.results173 (λ w hw=>?_)
 exact⟨x5,rfl,h5,hw.rN⟩
theorem m7{Kt:Tr}{v r:Int}{s:Mm}{b4 b5:Nat}{nd:Nd}(hK:Wc b Kt s f cap B)(hv:v<=s.nodes.length)(he:(bF s.nodes v).exp=nd.exp)(hst:(bF s.nodes v).status=nd.status)(hd:nd.status<=9223372036854775807):rM b 172 [pt b4,pt b5] [.int .i64 r] (bx b4 (nd.cells:List Value)::bx b5 [fn f cap]::B) s (.node v λ n2=>.node v λ n3=>.iS n3.status 0 (if r=n2.exp then 1 else 2) λ _=>Kt):=by
 intro a D A w em ok hm hA hB hw0
 subst em
 refine enter Tryz.func172 Tryz.ntmps172 rfl rfl hw0 ?_
 simp only[cD]
 refine J0 ?_;refine aJ (λ x4=>?_);refine aG ?_;refine Kb2 ?_;refine aE ?_;refine aB (pA b4 (nd.cells:List Value) 11 hB rfl) rfl ?_;refine tS ?_
 refine bC (λ c9=>?_) (λ c9=>?_)
 ·refine dH ?_;refine J1 ?_;refine Ka9 ?_;refine aB (pA b4 (nd.cells:List Value) 13 hB rfl) rfl ?_;refine aA ?_;(refine aB cL rfl ?_);refine aM (cV (hc:=λ w1 hw=>sX _ _ _ _ _ w1)) (λ x14=>?_);refine cI (gS λ _=>bE rf cX rf (dA _) eH rf jV) (λ _=>?_);refine aG ?_
  refine bA Tryz.results172 (λ w hw=>?_)
  refine⟨(tR nd.status 0 1 _ _,[],a),rfl,⟨⟨hv,hv,?_⟩,ok,AS.iF.refl a⟩,hw.rI⟩
  dsimp only
  rw[he,hst,if_pos (by omega)]
  exact⟨rfl,hd,by have:=ok.mo.two;omega,_,_,rfl,by kernel_rfl,λ o s1 l=>(Uj (b5:=b5) (hK.le l) o).mr (λ y hy=>List.mem_cons_of_mem _ hy)⟩
 ·refine aV ?_;refine Ka9 ?_;refine aB (pA b4 (nd.cells:List Value) 13 hB rfl) rfl ?_;refine aA ?_;(refine aB cL rfl ?_);refine aM (cV (hc:=λ w1 hw=>sX _ _ _ _ _ w1)) (λ x14=>?_);refine cI (gS λ _=>bE rf cX rf (dA _) eH rf jV) (λ _=>?_);refine aG ?_
  refine bA Tryz.results172 (λ w hw=>?_)
  refine⟨(tR nd.status 0 2 _ _,[],a),rfl,⟨⟨hv,hv,?_⟩,ok,AS.iF.refl a⟩,hw.rI⟩
  dsimp only
  rw[he,hst,if_neg (by omega)]
  exact⟨rfl,hd,by have:=ok.mo.two;omega,_,_,rfl,by kernel_rfl,λ o s1 l=>(Uj (b5:=b5) (hK.le l) o).mr (λ y hy=>List.mem_cons_of_mem _ hy)⟩
theorem V0{Kt:Tr}{v:Int}{nd:Nd}(ht:t.root<=9223372036854775807)(hK:Wc b Kt a.mm f cap B)(hv:v<=a.mm.nodes.length)(ho:(bF a.mm.nodes v).aZ=nd.aZ)(he:(bF a.mm.nodes v).exp=nd.exp)(hst:(bF a.mm.nodes v).status=nd.status)(ok:a.Ok)(hm:a.mm.Small)(hA:∀f∈aL a.L,f∈A)(hB:∀x∈B,x∈A)(hs:SF w D [(b,eS a)] A [] (eX a) w) :
  Calls Tryz.prog 138 #[.agg ⟨lC b t⟩,nd.v,fn f cap] w (Bf b (λ c' s' B'=>kR b (oK t v Kt) a.mm c' s' B') a B D w):=by
 have hol:nd.aZ<=a.mm.nodes.length:=by rw[<- ho];exact(ok.mo.at v).aZ
 have hd:nd.status<=9223372036854775807:=by rw[<- hst];exact oP hm (ok.mo.at v).status
 have hT:∀x4 x5:Nat,Dt b (λ r=>.node v λ n2=>.node v λ n3=>.iS n3.status 0 (if r=n2.exp then 1 else 2) λ _=>Kt) a.mm 172 [.pointer (some ⟨x4,0,none⟩),.pointer (some ⟨x5,0,none⟩)] (bx x5 [fn f cap]::bx x4 (nd.cells:List Value)::B):=λ x4 x5=>⟨by kernel_rfl,λ r s1 l hr=>(m7 (b4:=x4) (b5:=x5) (nd:=nd) (hK.le l) (by have:=l.len;omega) (by rw[l.nd hv];exact he) (by rw[l.nd hv];exact hst) hd).mr (λ y hy=>by
  simp only[List.mem_cons] at hy ⊢
  rcases hy with h|h|h<;>simp[h])⟩
 refine enter Tryz.func138 Tryz.ntmps138 rfl rfl hs ?_
 simp only[cD]
 simp only[Nd.v,Nd.cells]
 refine J0 ?_;refine bO (λ x3=>?_);refine bO (λ x4=>?_);refine bO (λ x5=>?_);refine aJ (λ x6=>?_);refine aG ?_;refine oI ?_;refine J3 ?_;(refine aB cL rfl ?_);(refine aM (bD.pre (λ w h=>(show SF _ _ [_,_,(b,eS a)] _ [(bx x5 [fn f cap]:Option Addr×List Value),bx x4 (nd.cells:List Value)] _ w from(h.dF (.tail (.tail .head))).dF (.tail .head))) (cM (V:=λ y:Cd×Fr×AS=>.agg ⟨y.1.cells⟩) (hs:=[(b,eS a)]) (os:=eX a) (hs':=λ y=>[(b,eS y.2.2)]) (os':=λ y=>eX y.2.2) (Fc:=λ y=>y.2.1) (A0:=bx x5 [fn f cap]::bx x4 (nd.cells:List Value)::A) (hA:=bJ.Z9) (hc:=λ w1 hw=>pq ht (hT x4 x5) hol ok hm (λ f hf=>List.mem_cons_of_mem _ (List.mem_cons_of_mem _ (hA f hf))) (Gf hB) hw))) (λ x11=>?_);try (refine fD (λ h11=>?_)));refine cI (gS λ _=>bE rf cX rf (dA _) eH rf jV) (λ _=>?_);refine aG ?_
 refine bA Tryz.results138 (λ w hw=>?_)
 refine⟨(x11.1,x11.2.1++[bx x5 [fn f cap],bx x4 (nd.cells:List Value)],x11.2.2),rfl,⟨⟨hv,?_⟩,h11.2.1,h11.2.2.more (λ f hf=>List.mem_append_left _ hf)⟩,hw.rI⟩
 dsimp only
 rw[ho,List.append_assoc]
 exact h11.1
end
end

/- gcas, root: the tasks. -/
section
open Go Go.RowKit Go.Ct
theorem rS.app{b:Nat}{p:Tr×Mm}{a:AS}{B B1 F:Fr}{c:Cd}{a':AS}(h:rS b p a (B1++B) (c,F,a')):rS b p a B (c,F++B1,a'):=by
 obtain⟨⟨h1,h2⟩,h3,h4⟩:=h
 refine⟨⟨?_,h2⟩,h3,h4.more λ f hf=>List.mem_append_left _ hf⟩
 simp only at h1 ⊢
 rw[List.append_assoc]
 exact h1
section
variable{D:List Nat}{A B:Fr}{a:AS}{b:Nat}{w:World}{f:FuncId}{cap:List Value}{t:dM}
theorem V3{t:Tr}{i m:Nat}(ht:bR t i m)(h:Wc b t a.mm f cap B)(ok:a.Ok)(hm:a.mm.Small)(hA:∀f∈aL a.L,f∈A)(hB:∀x∈B,x∈A)(hs:SF w D [(b,eS a)] A [] (eX a) w) :
  Calls Tryz.prog 73 #[.iface 42 (.pointer (some ⟨b,0,none⟩)),.func (.func f) #[] ⟨cap⟩] w λ e w'=>∃x:Nat×Cd×Fr×AS,e=.returned (.pointer (some ⟨x.1,0,none⟩))/\(rS b (Ct.jH t a.mm) a B x.2/\dL (Ct.jH t a.mm).1=true)/\SF w D ([(b,eS x.2.2.2)]++[(x.1,tO b x.2.1 0)]) [] x.2.2.1 (eX x.2.2.2++[]) w' :=
 (gf ht h ok hm hA hB hs).mono λ _ _ ⟨x,e,h,hw⟩=>⟨x,e,h,by rw[List.append_nil];exact hw.perm (List.Perm.swap _ _ _) (List.Perm.refl _)⟩
theorem u6{s:Mm}(v:Bool):Ad b 98 [] [.bool v] B s (λ c' s' B'=>kR b (.done (iD 0 v)) s c' s' B'):=by
 intro a D A w em ok hm hA hB hw0
 subst em
 refine enter Tryz.func98 Tryz.ntmps98 rfl rfl hw0 ?_
 simp only[cD]
 refine J0 ?_;refine aJ (λ x2=>?_);refine aG ?_;refine J2 ?_;refine bM ?_;refine aM (cV (hc:=λ w1 hw=>q8 (iD 0 v) w1)) (λ x5=>?_);refine J5 ?_
 refine bA Tryz.results98 (λ w hw=>?_)
 exact⟨(A4 (iD 0 v),[],a),rfl,⟨⟨rfl,rfl⟩,ok,AS.iF.refl a⟩,hw.rI⟩
end
end

/- root: Help. -/
section
open Go Go.RowKit Go.Ct
section
variable{D:List Nat}{A B:Fr}{a:AS}{b:Nat}{w:World}{f:FuncId}{cap:List Value}{t:dM}
end
end

end Go.Proofs.YtbajmaoegmbfgaaGreat
