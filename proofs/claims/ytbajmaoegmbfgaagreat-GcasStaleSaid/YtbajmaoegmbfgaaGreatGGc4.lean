/- Merged. -/
import Derived.Test.YtbajmaoegmbfgaaGreatGGc1
import Derived.Test.YtbajmaoegmbfgaaGreatGTm2
import Derived.Test.YtbajmaoegmbfgaaGreatGTt3
import Derived.Test.YtbajmaoegmbfgaaGreatGLe1
import Derived.Test.YtbajmaoegmbfgaaGreatGIxg
set_option linter.unusedSimpArgs false
set_option linter.unusedVariables false
namespace Go.Proofs.YtbajmaoegmbfgaaGreat
open Go Go.RowKit Go.Ct
section
theorem V0{b:Nat}{i m p prev:Int}{c:Bool}{K:Int->Tr}{s s2:Mm}{cd:Cd}{B:Fr}(hmm:m<=s.nodes.length)(hn:(aS s.nodes m).prev=prev)(h:lW b (l9 prev p c λ _=>kJ i m K) s cd s2 B):lW b (jP i m p c K) s cd s2 B:=by
 subst hn
 unfold l9 at h
 unfold jP
 split
 ·rename_i hc
  rw[if_pos hc] at h
  exact⟨hmm,h⟩
 ·rename_i hc
  rw[if_neg hc] at h
  exact⟨hmm,h⟩
section
variable{D:List Nat}{A B:Fr}{a:AS}{b:Nat}{w:World}{f:FuncId}{cap:List Value}{t:dL}
theorem ox{K:Int->Tr}{i m p:Int}{s:Mm}{bt bm bo bi:Nat}(hK:Iq b K s f cap B)(hi:i<=s.nodes.length)(hmm:m<=s.nodes.length)(hp:p<=s.nodes.length):zM b 165 [pt bt,pt bm,pt bo,pt bi] [.int .i64 p] (bx bt [fn f cap]::bx bm [iv m]::bx bo (oT b t)::bx bi [iv i]::B) s (if p=0 then K m else I3 i m p K):=by
 intro a D A w em ok hm hA hB hw0
 subst em
 have hK2:=hK.more (B2:=(bx bt [fn f cap]::bx bm [iv m]::bx bo (oT b t)::bx bi [iv i]::B)) (λ x hx=>by simp[hx])
 refine enter Tryz.func165 Tryz.ntmps165 rfl rfl hw0 ?_
 simp only[cC]
 refine J0 ?_;refine aK (λ x6=>?_);refine aH ?_;refine kT ?_;refine uI ?_
 refine bC (λ c8=>?_) (λ c8=>?_)
 ·refine J0 ?_;refine aC (rW bt [fn f cap] 0 hB rfl) rfl ?_;refine aC (rW bm [.int .i64 m] 0 hB rfl) rfl ?_;refine aD (Sq hK2.1 (hK2.2 m a.mm (Mm.Le.refl _) hmm) ok hm hA hB) (λ x11 h11=>?_);refine dA (jR λ _=>bS rf dC rf (eF _) eT rf lS) (λ _=>?_);refine aH ?_
  refine bE Tryz.results165 (λ w hw=>?_)
  refine⟨x11,rfl,⟨?_,h11.2⟩,hw.rN⟩
  rw[if_pos (by omega)]
  exact h11.1
 ·refine aZ ?_;refine J0 ?_;refine aC (o0 bo (oT b t) 0 3 hB rfl rfl) rfl ?_;refine aC (rW bi [.int .i64 i] 0 hB rfl) rfl ?_;refine aC (rW bm [.int .i64 m] 0 hB rfl) rfl ?_;refine aA ?_;refine aC (rW bt [fn f cap] 0 hB rfl) rfl ?_;refine aD (Ri (λ w1 hw=>Wv hK2 hi hmm hp ok hm hA hB hw)) (λ x17 h17=>?_);refine dA (jR λ _=>bS rf dC rf (eF _) eT rf lS) (λ _=>?_);refine aH ?_
  refine bE Tryz.results165 (λ w hw=>?_)
  refine⟨x17,rfl,⟨?_,h17.2⟩,hw.rN⟩
  rw[if_neg (by omega)]
  exact h17.1
theorem s7{K:Int->Tr}{i m prev:Int}{s:Mm}{bp bt bm bo bi:Nat}(hK:Iq b K s f cap B)(hi:i<=s.nodes.length)(hmm:m<=s.nodes.length)(hpr:prev<=9223372036854775807)(hn:(aS s.nodes m).prev=prev)(o:Bool):zM b 164 [pt bp,pt bt,pt bm,pt bo,pt bi] [.bool o] (bx bp [iv prev]::bx bt [fn f cap]::bx bm [iv m]::bx bo (oT b t)::bx bi [iv i]::B) s (kJ i m K):=by
 intro a D A w em ok hm hA hB hw0
 subst em
 refine enter Tryz.func164 Tryz.ntmps164 rfl rfl hw0 ?_
 simp only[cC]
 refine J0 ?_;refine aK (λ x7=>?_);refine aH ?_;refine J0 ?_;refine aC (rW bp [.int .i64 prev] 0 hB rfl) rfl ?_;(refine aC dZ rfl ?_);refine aQ (cV (hc:=λ w1 hw=>Ag _ _ _ w1)) (λ x10=>?_);refine dA (jR λ _=>bS rf dC rf (eF _) eT rf lS) (λ _=>?_);refine aH ?_
 refine bE Tryz.results164 (λ w hw=>?_)
 refine⟨(wY prev _ _,[],a),rfl,⟨⟨hmm,?_⟩,ok,AS.jZ.refl a⟩,hw.rI⟩
 dsimp only
 rw[hn]
 exact⟨rfl,hpr,_,_,rfl,by kernel_rfl,λ p s1 l hp=>(ox (bt:=bt) (bm:=bm) (bo:=bo) (bi:=bi) (hK.le l) (by have:=l.len;omega) (by have:=l.len;omega) hp).mr (λ y hy=>List.mem_cons_of_mem _ hy)⟩
theorem rb{K:Int->Tr}{i m p prev r:Int}{s:Mm}{bo bi bp bq ba:Nat}(hK:Yu b (λ _=>kJ i m K) s f cap B)(hi:i<=s.nodes.length)(hmm:m<=s.nodes.length)(hp:p<=s.nodes.length)(hr:r<=s.nodes.length)(hn:(aS s.nodes m).prev=prev):zM b 168 [pt bo,pt bi,pt bp,pt bq,pt ba] [.int .i64 r] (bx bo (oT b t)::bx bi [iv i]::bx bp [iv prev]::bx bq [iv p]::bx ba [fn f cap]::B) s (.node r λ nr=>.node i λ ni=>jP i m p (nr.gen==ni.gen) K):=by
 intro a D A w em ok hm hA hB hw0
 subst em
 have hK2:=hK.more (B2:=(bx bo (oT b t)::bx bi [iv i]::bx bp [iv prev]::bx bq [iv p]::bx ba [fn f cap]::B)) (λ x hx=>by simp[hx])
 have hpr:prev<=a.mm.cs.length:=by rw[<- hn];exact(ok.mo.at m).prev
 refine enter Tryz.func168 Tryz.ntmps168 rfl rfl hw0 ?_
 simp only[cC]
 refine J0 ?_;refine aK (λ x7=>?_);refine Qo ?_;refine eC [(0,[]),(1,[]),(2,[]),(5,[]),(6,[]),(7,[]),(3,[6,7]),(4,[]),(8,[]),(9,[]),(10,[]),(11,[])] ?_;refine aU ?_;refine bV (i:=1) (hq:=(rW bo (oT b t) 0 hB rfl)) (h:=?_);refine aN ?_;refine aU ?_;refine bV (i:=6) (hq:=(rW bo (oT b t) 0 hB rfl)) (h:=?_);refine bV (i:=7) (hq:=(rW bi [.int .i64 i] 0 hB rfl)) (h:=?_);refine bB (i:=3) (hq:=(My r ok hm hA hr)) (hfire:=(λ _=>by(refine eY ?_;(repeat (first|exact aJ.nil|refine aJ.cons (by first|exact fC (hq:=rW bo (oT b t) 0 hB rfl)|exact fC (hq:=rW bi [.int .i64 i] 0 hB rfl)) ?_));done))) (h:=λ x12 h12=>?_);refine lC ?_;refine bB (i:=8) (hq:=(My i ok hm hA hi)) (h:=λ x17 h17=>?_);refine lC ?_;refine nE ?_;refine J7 ?_;refine J0 ?_;refine aC (o0 bo (oT b t) 0 3 hB rfl rfl) rfl ?_;refine aC (rW bp [.int .i64 prev] 0 hB rfl) rfl ?_;refine aC (rW bq [.int .i64 p] 0 hB rfl) rfl ?_;refine aA ?_;refine aC (rW ba [fn f cap] 0 hB rfl) rfl ?_;refine aD (Ri (λ w1 hw=>Jk (K:=λ _=>kJ i m K) hK2 hpr hp ok hm hA hB hw)) (λ x25 h25=>?_);refine dA (jR λ _=>bS rf dC rf (eF _) eT rf lS) (λ _=>?_);refine aH ?_
 refine bE Tryz.results168 (λ w hw=>?_)
 refine⟨x25,rfl,⟨⟨hr,hi,?_⟩,h25.2⟩,hw.rN⟩
 rw[mU,mU]
 exact V0 hmm hn h25.1
set_option maxRecDepth 100000 in
set_option maxHeartbeats 2000000 in
theorem px{K:Int->Tr}{i m p prev:Int}{s:Mm}{bt bm bo bi bp:Nat}(ht:t.root<=9223372036854775807)(hK:Iq b K s f cap B)(hi:i<=s.nodes.length)(hmm:m<=s.nodes.length)(hp:p<=s.nodes.length)(hn:(aS s.nodes m).prev=prev):zM b 162 [pt bt,pt bm,pt bo,pt bi,pt bp] [.int .i64 p] (bx bt [fn f cap]::bx bm [iv m]::bx bo (oT b t)::bx bi [iv i]::bx bp [iv prev]::B) s (if p=0 then K m else .node p λ np=>if bQ np then(if t.ro=true then jP i m p false K else C4 t λ r=>.node r λ nr=>.node i λ ni=>jP i m p (nr.gen==ni.gen) K) else I3 i m p K):=by
 intro a D A w em ok hm hA hB hw0
 subst em
 have hK2:=hK.more (B2:=(bx bt [fn f cap]::bx bm [iv m]::bx bo (oT b t)::bx bi [iv i]::bx bp [iv prev]::B)) (λ x hx=>by simp[hx])
 have np:=He ok p
 have hpr:prev<=a.mm.cs.length:=by rw[<- hn];exact(ok.mo.at m).prev
 have hAg:Yu b (λ _=>kJ i m K) a.mm 164 [.pointer (some ⟨bp,0,none⟩),.pointer (some ⟨bt,0,none⟩),.pointer (some ⟨bm,0,none⟩),.pointer (some ⟨bo,0,none⟩),.pointer (some ⟨bi,0,none⟩)] (bx bt [fn f cap]::bx bm [iv m]::bx bo (oT b t)::bx bi [iv i]::bx bp [iv prev]::B):=⟨by kernel_rfl,λ o s1 l=>(s7 (t:=t) (prev:=prev) (bp:=bp) (bt:=bt) (bm:=bm) (bo:=bo) (bi:=bi) (hK.le l) (by have:=l.len;omega) (by have:=l.len;omega) (tP hm hpr) (by rw[l.nd hmm];exact hn) o).mr (λ y hy=>by
  simp only[List.mem_cons] at hy ⊢
  rcases hy with h|h|h|h|h|h<;>simp[h])⟩
 have hRt:∀x6 x8:Nat,Iq b (λ r=>.node r λ nr=>.node i λ ni=>jP i m p (nr.gen==ni.gen) K) a.mm 168 [.pointer (some ⟨bo,0,none⟩),.pointer (some ⟨bi,0,none⟩),.pointer (some ⟨bp,0,none⟩),.pointer (some ⟨x6,0,none⟩),.pointer (some ⟨x8,0,none⟩)] (bx x8 [.func (.func 164) #[] ⟨[.pointer (some ⟨bp,0,none⟩),.pointer (some ⟨bt,0,none⟩),.pointer (some ⟨bm,0,none⟩),.pointer (some ⟨bo,0,none⟩),.pointer (some ⟨bi,0,none⟩)]⟩]::bx x6 [iv p]::(bx bt [fn f cap]::bx bm [iv m]::bx bo (oT b t)::bx bi [iv i]::bx bp [iv prev]::B)):=λ x6 x8=>⟨by kernel_rfl,λ r s1 l hr=>(rb (t:=t) (prev:=prev) (bo:=bo) (bi:=bi) (bp:=bp) (bq:=x6) (ba:=x8) (hAg.le l) (by have:=l.len;omega) (by have:=l.len;omega) (by have:=l.len;omega) hr (by rw[l.nd hmm];exact hn)).mr (λ y hy=>by
  simp only[List.mem_cons] at hy ⊢
  rcases hy with h|h|h|h|h|h<;>simp[h])⟩
 refine enter Tryz.func162 Tryz.ntmps162 rfl rfl hw0 ?_
 simp only[cC]
 refine J0 ?_;refine bM (λ x6=>?_);refine aK (λ x7=>?_);refine Qo ?_;refine nI ?_;refine uI ?_
 refine bC (λ c10=>?_) (λ c10=>?_)
 ·refine J0 ?_;refine aC (rW bt [fn f cap] 0 hB rfl) rfl ?_;refine aC (rW bm [.int .i64 m] 0 hB rfl) rfl ?_;refine aD (Sq hK2.1 (hK2.2 m a.mm (Mm.Le.refl _) hmm) ok hm hA hB) (λ x13 h13=>?_);refine dA (jR λ _=>bS rf dC rf (eF _) eT rf lS) (λ _=>?_);refine aH ?_
  refine bE Tryz.results162 (λ w hw=>?_)
  refine⟨x13,rfl,⟨?_,h13.2⟩,hw.rN⟩
  rw[if_pos (by omega)]
  exact h13.1
 ·refine kW ?_;refine Kc3 ?_;refine aC (rW bo (oT b t) 0 hB rfl) rfl ?_;refine bR ?_;refine aD (My p ok hm hA hp) (λ x17 h17=>?_);refine aD (c0 (V:=.bool) (hc:=λ w1 hw=>T8 ((aB (cP a.L) p).at_ x17.1 x17.2).nd w1)) (λ x18 h18=>?_);refine oV ?_
  refine bC (λ c19=>?_) (λ c19=>?_)
  ·refine J0 ?_;refine aC (o0 bo (oT b t) 0 3 hB rfl rfl) rfl ?_;refine aC (rW bi [.int .i64 i] 0 hB rfl) rfl ?_;refine aC (rW bm [.int .i64 m] 0 hB rfl) rfl ?_;refine bR ?_;refine aC (rW bt [fn f cap] 0 hB rfl) rfl ?_;refine aD (Ri (λ w1 hw=>Wv hK2 hi hmm hp ok hm hA hB hw)) (λ x25 h25=>?_);refine dA (jR λ _=>bS rf dC rf (eF _) eT rf lS) (λ _=>?_);refine aH ?_
   refine bE Tryz.results162 (λ w hw=>?_)
   refine⟨x25,rfl,⟨?_,h25.2⟩,hw.rN⟩
   rw[if_neg (by omega)]
   refine⟨hp,?_⟩
   rw[mU]
   dsimp only
   rw[if_neg (λ hk=>by have h2:=h18.2 hk;rw[h2] at c19;cases c19)]
   exact h25.1
  ·refine aZ ?_;refine J0 ?_;(refine aC dZ rfl ?_);refine aQ (jR λ _=>Wt (z:=.nilFunc) (by kernel_rfl) rfl) (λ x8=>?_);refine J5 ?_;refine aV ?_;refine Kc3 ?_;refine aF ?_;refine aC (rW bo (oT b t) 2 hB rfl) rfl ?_;refine aH ?_
   refine bC (λ c29=>?_) (λ c29=>?_)
   ·refine J0 ?_;refine aC (o0 bo (oT b t) 0 3 hB rfl rfl) rfl ?_;refine aC (rW bp [.int .i64 prev] 0 hB rfl) rfl ?_;refine bR ?_;refine bR ?_;refine aD (Ri (λ w1 hw=>Jk (K:=λ _=>kJ i m K) hAg hpr hp ok hm hA hB hw)) (λ x34 h34=>?_);refine dA (jR λ _=>bS rf dC rf (eF _) eT rf lS) (λ _=>?_);refine aH ?_
    refine bE Tryz.results162 (λ w hw=>?_)
    refine⟨x34,rfl,⟨?_,h34.2⟩,hw.rN⟩
    rw[if_neg (by omega)]
    refine⟨hp,?_⟩
    rw[mU]
    dsimp only
    rw[if_pos (show bQ (aB (cP a.L) p).c from h18.1 (by simpa using c19)),if_pos c29]
    exact V0 hmm hn h34.1
   ·refine je (λ w h=>(show SF _ _ [_,(b,gH a)] _ [_,_] _ w from(h.eN (.tail (.tail .head))).eN .head)) ?_
    refine aZ ?_;refine J0 ?_;refine aC (o0 bo (oT b t) 0 3 hB rfl rfl) rfl ?_;(refine aC dZ rfl ?_);refine aD (cM (V:=λ y:Cd×Fr×AS=>.agg ⟨y.1.cells⟩) (hs:=[(b,gH a)]) (os:=gK a) (hs':=λ y=>[(b,gH y.2.2)]) (os':=λ y=>gK y.2.2) (Fc:=λ y=>y.2.1) (A0:=bx x8 [.func (.func 164) #[] ⟨[.pointer (some ⟨bp,0,none⟩),.pointer (some ⟨bt,0,none⟩),.pointer (some ⟨bm,0,none⟩),.pointer (some ⟨bo,0,none⟩),.pointer (some ⟨bi,0,none⟩)]⟩]::bx x6 [iv p]::A) (hA:=bG.y0) (hc:=λ w1 hw=>py (K:=λ r=>.node r λ nr=>.node i λ ni=>jP i m p (nr.gen==ni.gen) K) (B:=bx x8 [.func (.func 164) #[] ⟨[.pointer (some ⟨bp,0,none⟩),.pointer (some ⟨bt,0,none⟩),.pointer (some ⟨bm,0,none⟩),.pointer (some ⟨bo,0,none⟩),.pointer (some ⟨bi,0,none⟩)]⟩]::bx x6 [iv p]::(bx bt [fn f cap]::bx bm [iv m]::bx bo (oT b t)::bx bi [iv i]::bx bp [iv prev]::B)) ht (hRt x6 x8) ok hm (λ f hf=>List.mem_cons_of_mem _ (List.mem_cons_of_mem _ (hA f hf))) (Se hB) hw)) (λ x37 h37=>?_);refine dA (jR λ _=>bS rf dC rf (eF _) eT rf lS) (λ _=>?_);refine aH ?_
    refine bE Tryz.results162 (λ w hw=>?_)
    refine⟨(x37.1,x37.2.1++[bx x8 [.func (.func 164) #[] ⟨[.pointer (some ⟨bp,0,none⟩),.pointer (some ⟨bt,0,none⟩),.pointer (some ⟨bm,0,none⟩),.pointer (some ⟨bo,0,none⟩),.pointer (some ⟨bi,0,none⟩)]⟩],bx x6 [iv p]],x37.2.2),rfl,⟨?_,h37.2.1,h37.2.2.more (λ f hf=>List.mem_append_left _ hf)⟩,hw.rI⟩
    rw[if_neg (by omega)]
    refine⟨hp,?_⟩
    rw[mU]
    dsimp only
    rw[if_pos (show bQ (aB (cP a.L) p).c from h18.1 (by simpa using c19)),if_neg (by rw[c29];decide)]
    rw[List.append_assoc]
    exact h37.1
theorem Zi{K:Int->Tr}{i m:Int}(ht:t.root<=9223372036854775807)(hK:Iq b K a.mm f cap B)(hi:i<=a.mm.nodes.length)(hmm:m<=a.mm.nodes.length)(ok:a.Ok)(hm:a.mm.Small)(hA:∀f∈aM a.L,f∈A)(hB:∀x∈B,x∈A)(hs:SF w D [(b,gH a)] A [] (gK a) w) :
  Calls Tryz.prog 121 #[.agg ⟨oT b t⟩,.int .i64 i,.int .i64 m,fn f cap] w (Gy b (λ c' s' B'=>lW b (pJ t i m K) a.mm c' s' B') a B D w):=by
 have nm:=He ok m
 refine enter Tryz.func121 Tryz.ntmps121 rfl rfl hs ?_
 simp only[cC]
 refine J0 ?_;refine bM (λ x4=>?_);refine bM (λ x5=>?_);refine bM (λ x6=>?_);refine bM (λ x7=>?_);refine aK (λ x8=>?_);refine aH ?_;refine iI ?_;refine bR ?_;refine aD (My m ok hm hA hmm) (λ x13 h13=>?_);refine cE ?_;refine aQ (jR λ _=>Wt (z:=.int .i64 0) (by kernel_rfl) rfl) (λ x9=>?_);refine J5 ?_;refine nI ?_;(refine aC dZ rfl ?_);refine aQ (cV (hc:=λ w1 hw=>Ag _ _ _ w1)) (λ x17=>?_);refine dA (jR λ _=>bS rf dC rf (eF _) eT rf lS) (λ _=>?_);refine aH ?_
 refine bE Tryz.results121 (λ w hw=>?_)
 refine⟨(wY (aB (cP a.L) m).nd.prev _ _,[bx x4 (oT b t),bx x5 [iv i],bx x6 [iv m],bx x7 [fn f cap],bx x9 [iv (aB (cP a.L) m).nd.prev]],a),rfl,⟨⟨hmm,?_⟩,ok,(AS.jZ.refl a).more (λ _ h=>(List.not_mem_nil h).elim)⟩,?_⟩
 ·rw[mU]
  refine⟨rfl,tP hm nm.prev,_,_,rfl,by kernel_rfl,λ p s1 l hp=>(px (bt:=x7) (bm:=x6) (bo:=x4) (bi:=x5) (bp:=x9) (prev:=(aB (cP a.L) m).nd.prev) ht (hK.le l) (by have:=l.len;omega) (by have:=l.len;omega) hp (by rw[l.nd hmm,mU];rfl)).mr (λ y hy=>?_)⟩
  simp only[List.mem_cons,List.mem_append,List.not_mem_nil,or_false] at hy ⊢
  rcases hy with h|h|h|h|h|h<;>simp[h]
 ·exact(((((hw.eN .head).eN (.tail .head)).eN (.tail .head)).eN (.tail .head)).eN (.tail .head)).rI
end
end
section
section
variable{D:List Nat}{A B:Fr}{a:AS}{b:Nat}{w:World}{f:FuncId}{cap:List Value}{t:dL}
theorem dj{K:Bool->Tr}{m n:Int}{s:Mm}{bt bn:Nat}(hK:Yu b K s f cap B):zM b 122 [pt bt,pt bn] [.int .i64 m] (bx bt [fn f cap]::bx bn [iv n]::B) s (K (m==n)):=by
 intro a D A w em ok hm hA hB hw0
 subst em
 have hK2:=hK.more (B2:=(bx bt [fn f cap]::bx bn [iv n]::B)) (λ x hx=>by simp[hx])
 refine enter Tryz.func122 Tryz.ntmps122 rfl rfl hw0 ?_
 simp only[cC]
 refine J0 ?_;refine aK (λ x4=>?_);refine aH ?_;refine J0 ?_;refine aC (rW bt [fn f cap] 0 hB rfl) rfl ?_;refine aA ?_;refine aC (rW bn [.int .i64 n] 0 hB rfl) rfl ?_;refine mF ?_;refine aD (Sq hK2.1 (hK2.2 (m==n) a.mm (Mm.Le.refl _)) ok hm hA hB) (λ x9 h9=>?_);refine dA (jR λ _=>bS rf dC rf (eF _) eT rf lS) (λ _=>?_);refine aH ?_
 refine bE Tryz.results122 (λ w hw=>?_)
 exact⟨x9,rfl,h9,hw.rN⟩
theorem jk{K:Bool->Tr}{i n:Int}{s:Mm}{bt bo bi bn:Nat}(ht:t.root<=9223372036854775807)(hK:Yu b K s f cap B)(hi:i<=s.nodes.length)(hnn:n<=s.nodes.length)(o:Bool):zM b 120 [pt bt,pt bo,pt bi,pt bn] [.bool o] (bx bt [fn f cap]::bx bo (oT b t)::bx bi [iv i]::bx bn [iv n]::B) s (if o=true then pJ t i n λ m=>K (m==n) else K false):=by
 intro a D A w em ok hm hA hB hw0
 subst em
 have hK2:=hK.more (B2:=(bx bt [fn f cap]::bx bo (oT b t)::bx bi [iv i]::bx bn [iv n]::B)) (λ x hx=>by simp[hx])
 have hT:Iq b (λ m=>K (m==n)) a.mm 122 [.pointer (some ⟨bt,0,none⟩),.pointer (some ⟨bn,0,none⟩)] (bx bt [fn f cap]::bx bo (oT b t)::bx bi [iv i]::bx bn [iv n]::B):=⟨by kernel_rfl,λ m s1 l hv=>(dj (bt:=bt) (bn:=bn) (hK.le l)).mr (λ y hy=>by
  simp only[List.mem_cons] at hy ⊢
  rcases hy with h|h|h<;>simp[h])⟩
 refine enter Tryz.func120 Tryz.ntmps120 rfl rfl hw0 ?_
 simp only[cC]
 refine J0 ?_;refine aK (λ x6=>?_);refine aH ?_;refine kT ?_;refine oV ?_
 refine bC (λ c8=>?_) (λ c8=>?_)
 ·refine J0 ?_;refine aC (rW bt [fn f cap] 0 hB rfl) rfl ?_;refine aD (Sq hK2.1 (hK2.2 false a.mm (Mm.Le.refl _)) ok hm hA hB) (λ x10 h10=>?_);refine dA (jR λ _=>bS rf dC rf (eF _) eT rf lS) (λ _=>?_);refine aH ?_
  refine bE Tryz.results120 (λ w hw=>?_)
  refine⟨x10,rfl,⟨?_,h10.2⟩,hw.rN⟩
  rw[if_neg (by rw[show o=false by simpa using c8];decide)]
  exact h10.1
 ·refine aZ ?_;refine J0 ?_;refine aC (o0 bo (oT b t) 0 3 hB rfl rfl) rfl ?_;refine aC (rW bi [.int .i64 i] 0 hB rfl) rfl ?_;refine aC (rW bn [.int .i64 n] 0 hB rfl) rfl ?_;(refine aC dZ rfl ?_);refine aD (Ri (λ w1 hw=>Zi ht hT hi hnn ok hm hA hB hw)) (λ x15 h15=>?_);refine dA (jR λ _=>bS rf dC rf (eF _) eT rf lS) (λ _=>?_);refine aH ?_
  refine bE Tryz.results120 (λ w hw=>?_)
  refine⟨x15,rfl,⟨?_,h15.2⟩,hw.rN⟩
  rw[if_pos (by simpa using c8)]
  exact h15.1
theorem oi{K:Bool->Tr}{i bJ n:Int}(ht:t.root<=9223372036854775807)(hK:Yu b K a.mm f cap B)(hi:i<=a.mm.nodes.length)(hnn:n<=a.mm.nodes.length)(ok:a.Ok)(hm:a.mm.Small)(hA:∀f∈aM a.L,f∈A)(hB:∀x∈B,x∈A)(hs:SF w D [(b,gH a)] A [] (gK a) w) :
  Calls Tryz.prog 75 #[.agg ⟨oT b t⟩,.int .i64 i,.int .i64 bJ,.int .i64 n,fn f cap] w (Gy b (λ c' s' B'=>lW b (jT t i bJ n K) a.mm c' s' B') a B D w):=by
 have ni:=He ok i
 refine enter Tryz.func75 Tryz.ntmps75 rfl rfl hs ?_
 simp only[cC]
 refine J0 ?_;refine bM (λ x5=>?_);refine bM (λ x6=>?_);refine bM (λ x8=>?_);refine bM (λ x9=>?_);refine aK (λ x10=>?_);refine Qo ?_;refine eC [(0,[]),(1,[]),(2,[]),(5,[]),(6,[]),(7,[]),(3,[6]),(4,[]),(8,[]),(9,[])] ?_;refine lH ?_;refine bT ?_;refine aN ?_;refine bT ?_;(refine cJ (i:=7) (hq:=dZ) (h:=?_));refine bB (i:=3) (hq:=(My i ok hm hA hi)) (h:=λ x14 h14=>?_);refine lC ?_;refine cR (i:=8) (hq:=(cV (hc:=λ w1 hw=>zR _ _ _ _ _ w1))) (h:=λ x19=>?_);refine kU (i:=9) (hq:=(jR λ _=>bS rf dC rf (eF _) eT rf lS)) (h:=λ _=>?_);refine eL ?_
 refine bE Tryz.results75 (λ w hw=>?_)
 refine⟨(yG (aB (cP a.L) i).nd.main bJ n _ _,[bx x5 (oT b t),bx x6 [iv i],bx x8 [iv n],bx x9 [fn f cap]],a),rfl,⟨⟨hi,?_⟩,ok,(AS.jZ.refl a).more (λ _ h=>(List.not_mem_nil h).elim)⟩,?_⟩
 ·rw[mU]
  refine⟨rfl,tP hm ni.main,hnn,_,_,rfl,by kernel_rfl,λ o s1 l=>(jk (bt:=x9) (bo:=x5) (bi:=x6) (bn:=x8) ht (hK.le l) (by have:=l.len;omega) (by have:=l.len;omega) o).mr (λ y hy=>?_)⟩
  simp only[List.mem_cons,List.mem_append,List.not_mem_nil,or_false] at hy ⊢
  rcases hy with h|h|h|h|h<;>simp[h]
 ·exact((((hw.eN (.tail .head)).eN (.tail .head)).eN (.tail .head)).eN (.tail .head)).rI
end
end
end Go.Proofs.YtbajmaoegmbfgaaGreat
namespace Go.Ct
open Go Go.RowKit
section
theorem bF.pre{P:Program}{S:List (Nat×Value)}{G G2:World->Prop}{o:Oper}{X:Type}{V:X->Value}{G':X->World->Prop}(h:∀w,G w->G2 w)(hl:bF P S G2 o X V G'):bF P S G o X V G':=⟨λ w hw=>hl.run w (h w hw)⟩
end
end Go.Ct
namespace Go.Proofs.YtbajmaoegmbfgaaGreat
open Go Go.RowKit Go.Ct
section
section
variable{D:List Nat}{A B:Fr}{a:AS}{b:Nat}{w:World}{f:FuncId}{cap:List Value}{t:dL}
end
end
section
theorem tY.app{b:Nat}{p:Tr×Mm}{a:AS}{B B1 F:Fr}{c:Cd}{a':AS}(h:tY b p a (B1++B) (c,F,a')):tY b p a B (c,F++B1,a'):=by
 obtain⟨⟨h1,h2⟩,h3,h4⟩:=h
 refine⟨⟨?_,h2⟩,h3,h4.more λ f hf=>List.mem_append_left _ hf⟩
 simp only at h1 ⊢
 rw[List.append_assoc]
 exact h1
section
variable{D:List Nat}{A B:Fr}{a:AS}{b:Nat}{w:World}{f:FuncId}{cap:List Value}{t:dL}
theorem Xg{t:Tr}{i m:Nat}(ht:bU t i m)(h:Th0 b t a.mm f cap B)(ok:a.Ok)(hm:a.mm.Small)(hA:∀f∈aM a.L,f∈A)(hB:∀x∈B,x∈A)(hs:SF w D [(b,gH a)] A [] (gK a) w) :
  Calls Tryz.prog 73 #[.iface 42 (.pointer (some ⟨b,0,none⟩)),.func (.func f) #[] ⟨cap⟩] w λ e w'=>∃x:Nat×Cd×Fr×AS,e=.returned (.pointer (some ⟨x.1,0,none⟩))/\(tY b (Ct.gX t a.mm) a B x.2/\eE (Ct.gX t a.mm).1=true)/\SF w D ([(b,gH x.2.2.2)]++[(x.1,tO b x.2.1 0)]) [] x.2.2.1 (gK x.2.2.2++[]) w' :=
 (m4 ht h ok hm hA hB hs).mono λ _ _ ⟨x,e,h,hw⟩=>⟨x,e,h,by rw[List.append_nil];exact hw.perm (List.Perm.swap _ _ _) (List.Perm.refl _)⟩
theorem yl{s:Mm}(v:Bool):A6 b 76 [] [.bool v] B s (λ c' s' B'=>lW b (.done (kF 0 v)) s c' s' B'):=by
 intro a D A w em ok hm hA hB hw0
 subst em
 refine enter Tryz.func76 Tryz.ntmps76 rfl rfl hw0 ?_
 simp only[cC]
 refine J0 ?_;refine aK (λ x2=>?_);refine aH ?_;refine J2 ?_;refine bN ?_;refine aQ (cV (hc:=λ w1 hw=>td (kF 0 v) w1)) (λ x5=>?_);refine J5 ?_
 refine bE Tryz.results76 (λ w hw=>?_)
 exact⟨(Ht (kF 0 v),[],a),rfl,⟨⟨rfl,rfl⟩,ok,AS.jZ.refl a⟩,hw.rI⟩
theorem zn{i bJ n:Int}{s:Mm}{bo bi bl bn:Nat}(ht:t.root<=9223372036854775807)(hi:i<=s.nodes.length)(hnn:n<=s.nodes.length):zM b 74 [pt bo,pt bi,pt bl,pt bn] [] (bx bo (oT b t)::bx bi [iv i]::bx bl [iv bJ]::bx bn [iv n]::B) s (jT t i bJ n λ ok=>.done (kF 0 ok)):=by
 intro a D A w em ok hm hA hB hw0
 subst em
 have hT:Yu b (λ ok=>.done (kF 0 ok)) a.mm 76 [] (bx bo (oT b t)::bx bi [iv i]::bx bl [iv bJ]::bx bn [iv n]::B):=⟨by kernel_rfl,λ v s1 l=>yl v⟩
 refine enter Tryz.func74 Tryz.ntmps74 rfl rfl hw0 ?_
 simp only[cC]
 refine J0 ?_;refine aK (λ x4=>?_);refine aH ?_;refine J0 ?_;refine aC (o0 bo (oT b t) 0 3 hB rfl rfl) rfl ?_;refine aC (rW bi [.int .i64 i] 0 hB rfl) rfl ?_;refine aC (rW bl [.int .i64 bJ] 0 hB rfl) rfl ?_;refine aC (rW bn [.int .i64 n] 0 hB rfl) rfl ?_;refine aD (Ri (λ w1 hw=>oi ht hT hi hnn ok hm hA hB hw)) (λ x9 h9=>?_);refine dA (jR λ _=>bS rf dC rf (eF _) eT rf lS) (λ _=>?_);refine aH ?_
 refine bE Tryz.results74 (λ w hw=>?_)
 exact⟨x9,rfl,h9,hw.rN⟩
theorem Oh{i bJ nw:Int}(ht:t.root<=9223372036854775807)(hi:i<=a.mm.nodes.length)(hnn:nw<=a.mm.nodes.length){n m:Nat}(hT:bU (jT t i bJ nw λ ok=>.done (kF 0 ok)) n m)(ok:a.Ok)(hm:a.mm.Small)(hA:∀f∈aM a.L,f∈A)(hB:∀x∈B,x∈A)(hs:SF w D [(b,gH a)] A [] (gK a) w) :
  Calls Tryz.prog 28 #[.iface 42 (.pointer (some ⟨b,0,none⟩)),.agg ⟨[.int .i64 t.root,.bool t.ro]⟩,.int .i64 i,.int .i64 bJ,.int .i64 nw] w λ e w'=>∃x:Nat×Cd×Fr×AS,e=.returned (.pointer (some ⟨x.1,0,none⟩))/\(tY b (Ct.gX (jT t i bJ nw λ ok=>.done (kF 0 ok)) a.mm) a B x.2/\eE (Ct.gX (jT t i bJ nw λ ok=>.done (kF 0 ok)) a.mm).1=true)/\SF w D [(x.1,tO b x.2.1 0),(b,gH x.2.2.2)] [] x.2.2.1 (gK x.2.2.2) w':=by
 refine enter Tryz.func28 Tryz.ntmps28 rfl rfl hs ?_
 simp only[cC]
 refine J0 ?_;refine bM (λ x6=>?_);refine bM (λ x7=>?_);refine bM (λ x8=>?_);refine bM (λ x9=>?_);refine Ka5 ?_;refine bR ?_;refine bN ?_;refine aK (λ x11=>?_);refine J5 ?_;refine J2 ?_;(refine aC dZ rfl ?_);(refine aQ (bF.pre (λ w h=>(show SF _ _ [_,(b,gH a)] _ ([bx x11 (oT b t),bx x7 [iv i],bx x8 [iv bJ],bx x9 [iv nw]]:Fr) _ w from(((h.eN (.tail .head)).eN (.tail .head)).eN (.tail .head)).eN .head)) (y3 (V:=λ x:Nat×Cd×Fr×AS=>.pointer (some ⟨x.1,0,none⟩)) (hs:=[(b,gH a)]) (os:=gK a) (hs':=λ x=>[(b,gH x.2.2.2)]) (Hc:=λ x=>[(x.1,tO b x.2.1 0)]) (os':=λ x=>gK x.2.2.2) (Oc:=λ _=>[]) (Fc:=λ x=>x.2.2.1) (A0:=[bx x11 (oT b t),bx x7 [iv i],bx x8 [iv bJ],bx x9 [iv nw]]++A) (hA:=bG.y8) (hc:=λ w1 hw=>Xg (B:=[bx x11 (oT b t),bx x7 [iv i],bx x8 [iv bJ],bx x9 [iv nw]]++B) hT ⟨by kernel_rfl,λ s1 l=>zn ht (by have:=l.len;omega) (by have:=l.len;omega)⟩ ok hm (λ f hf=>List.mem_append_right _ (hA f hf)) (Ud hB) hw))) (λ x17=>?_);try (refine fD (λ h17=>?_)));refine J1 ?_
 refine aR Tryz.results28 (λ w hw=>?_)
 exact⟨(x17.1,x17.2.1,x17.2.2.1++[bx x11 (oT b t),bx x7 [iv i],bx x8 [iv bJ],bx x9 [iv nw]],x17.2.2.2),rfl,⟨tY.app h17.1,h17.2⟩,hw.ret (by repeat (first|exact List.Sublist.refl _|apply List.Sublist.cons_cons|apply List.Sublist.cons)) (aY.jH λ f hf=>hf) (by repeat (exact List.Sublist.refl _))⟩
end
end
section
section
variable{D:List Nat}{A B:Fr}{a:AS}{b:Nat}{w:World}{f:FuncId}{cap:List Value}{t:dL}
end
end
section
section
variable{D:List Nat}{A B:Fr}{a:AS}{b:Nat}{w:World}{f:FuncId}{cap:List Value}{t:dL}
end
end
section
section
variable{D:List Nat}{A B:Fr}{a:AS}{b:Nat}{w:World}{f:FuncId}{cap:List Value}{t:dL}
end
end
end Go.Proofs.YtbajmaoegmbfgaaGreat
namespace Go.Ct
open Go Go.RowKit
section
end
end Go.Ct
namespace Go.Proofs.YtbajmaoegmbfgaaGreat
open Go Go.RowKit Go.Ct
section
end
section
theorem Yo(x y:AX):gC (L4 x y) [0,3,4] 1 :=
 mT (m:=0) (B:=8) (C:=0) (E:=0) (W:=⟨XS.new (L4 x y) [0,3,4] 1 0 none 0 none 0,[⟨3,false⟩],none,0,[],none,0⟩) ⟨Wh _ _ _ _ _ _ _,⟨by show 4<=8;decide,by show 3<=8;decide,by show(1:Int)<=((8:Nat):Int);decide⟩,(λ e he=>nomatch he),by show 0<1;decide,rfl,by show 1<=5;decide,Nat.le_refl _,.new⟩
section
variable{D:List Nat}{A B:Fr}{a0 a:AS}{b bt n m most:Nat}{w:World}{c:Cd}{F:Fr}{p:Tr×Mm}
theorem az(hp:tY b p a0 B (c,F,a))(ha:eE p.1=true)(ht:bU p.1 m 64)(hmm:most<=m)(hm:p.2.nodes.length+64*most<=137438953472/\p.2.cs.length+64*most<=137438953472)(hn:n+most<1000000000)(hA:∀f∈aM a.L,f∈A)(hB:∀x∈F++B,x∈A)(hs:SF w D [(bt,tO b c n),(b,gH a)] A [] (gK a) w) :
  Calls Tryz.prog 30 #[.pointer (some ⟨bt,0,none⟩),.int .i64 ((most:Nat):Int)] w λ e w'=>∃y:Cd×Fr×AS,e=.returned (.int .i64 ((vB p most:Nat):Int))/\zl b (lG p most) a (F++B) y/\SF w D [(bt,tO b y.1 (n+vB p most)),(b,gH y.2.2)] [] y.2.1 (gK y.2.2) w':=by
 obtain⟨⟨h1,h2⟩,h3,h4⟩:=hp
 simp only at h1 h2 h3
 have e:(p.1,a.mm)=p:=by rw[h2]
 have:=Pv (b:=b) (bt:=bt) (n:=n) (D:=D) (A:=A) (B:=F++B) (w:=w) (most:=most) ht hmm ha (a:=a) (c:=c) (by rw[h2];exact h1) h3 (by rw[h2];exact hm) hn hA hB hs
 rw[e] at this
 exact this
end
end
section
end
end Go.Proofs.YtbajmaoegmbfgaaGreat
namespace Go.Ct
open Go Go.RowKit
section
end
end Go.Ct
namespace Go.Proofs.YtbajmaoegmbfgaaGreat
open Go Go.RowKit Go.Ct
section
theorem L0{x:XS}(h:x.Ok):D7 x.L:=λ v hv=>by
 have hb:=h.nd v hv
 have h1:=hb.main
 have h2:=hb.prev
 have h3:=hb.status
 have h4:=h.lc
 have e1:v.c.main=v.nd.main:=rfl
 have e2:v.c.prev=v.nd.prev:=rfl
 have e3:v.c.status=v.nd.status:=rfl
 exact⟨hb.bm,by omega,by omega,by omega⟩
end
section
def Qd(z:XS)(p:Pl):Prop:=(aS (z.L.map aP.c) p.i).kind=2/\fV (z.L.map aP.c) z.cs p.i=some p.m
theorem Qd.in{z:XS}{p:Pl}(h:Qd z p):1<=p.i/\p.i<=z.L.length:=by
 have:=dJ (N:=z.L.map aP.c) (i:=p.i) (by have:=h.1;omega)
 rwa [List.length_map] at this
theorem Yk{N:List Nv}{cs:List Int}{i m:Int}(h:fV N cs i=some m):bQ (aS N m):=by
 unfold fV at h
 split at h
 ·rename_i h1
  split at h
  ·cases h;exact h1.2
  ·split at h
   ·cases h;assumption
   ·cases h
 ·cases h
theorem Qd.mk{z:XS}{p:Pl}(h:Qd z p):bQ (aS (z.L.map aP.c) p.m):=Yk h.2
theorem Qd.inm{z:XS}{p:Pl}(h:Qd z p):1<=p.m/\p.m<=z.L.length:=by
 have:=dJ (N:=z.L.map aP.c) (i:=p.m) (by have:=h.mk;unfold bQ at this;omega)
 rwa [List.length_map] at this
abbrev p9:vF:=⟨⟨0,0,0,0,[]⟩,none,0⟩
def aAJ(z:XS)(t:dL)(p:Pl):Prop:=∃r q,kC (z.L.map aP.c) z.cs t.root=some r/\Ii (z.L.map aP.c) z.cs 12 0 0 r [] []=some q/\p∈q.1
theorem jh{bw bm tp m B C E:Nat}{W:Wd}{t:dL}{l:List Int}{a:Option Addr}{c pos:Nat}{D:List Nat}{A:Fr}{w:World}(hW:Cs m B C E W)(hB:B<=3000000000)(ht:t∈W.ts)(hrt:t.root<=9223372036854775807)(hl:l.length<=17592186043904)(hA:∀f∈aM W.z.L,f∈A)(hT:(a,aG l)∈A)
    (hs:SF w D [(tp,Jo a l c pos),(bw,mR bm (m:Int) W.pt W.ts.length W.kt W.pe (nL W.ex).length W.ke),(bm,xM W.z)] A [] (Al W.z) w) :
    Calls Tryz.prog 23 #[.pointer (some ⟨bw,0,none⟩),.agg ⟨[.int .i64 t.root,.bool t.ro]⟩,.pointer (some ⟨tp,0,none⟩)] w λ e w'=>∃v:vF,e=.returned (.tuple #[.agg ⟨v.cells⟩,.bool true])/\(Qd W.z v.p/\aAJ W.z t v.p) /\
      SF w D [(tp,Jo a l c (mX l pos)),(bw,mR bm (m:Int) W.pt W.ts.length W.kt W.pe (nL W.ex).length W.ke),(bm,xM W.z)] [] [] (Al W.z) w':=by
  obtain⟨r,q,hro,hpl,hne,hq⟩:=Q6 hW ht
  obtain⟨s1,s2,s3⟩:=hW.sz
  have hys:=Ju hW
  have hpr:=mT hW
  refine enter Tryz.func23 Tryz.ntmps23 rfl rfl hs ?_
  simp only[cC]
  refine J0 ?_;refine bM (λ x4=>?_);refine aK (λ x6=>?_);refine jF ?_;refine gZ [0,1,2,3,4,5,6,7,8,9,10,11,12,13,14,15] ?_;refine bj ?_;refine J4 ?_;refine bV (i:=6) (hq:=(aT (k:=3) rf dC eT (by simp only[List.drop_zero,List.take_succ_cons,List.take_zero];exact rfl) rfl)) (h:=?_);refine bT ?_;refine bB (i:=8) (hq:=(Ul (V:=λ x:Ik=>.tuple #[.slice x.lp x.l.length x.lc,.slice x.pp x.ps.length x.pc,.bool true]) (Hc:=λ _=>[]) (Fc:=λ x=>x.fr) (F1:=λ x=>x.fr) (Oc:=λ _=>[]) (hF1:=λ x=>List.append_nil _) (hc:=λ w1 hw=>Tg (B:=8) hpr (hw.Gm (.inr (.inr (.inr ⟨_,.head _,rfl,rfl⟩))) (.inr (.inr (.inr ⟨_,.tail _ (.head _),rfl,rfl⟩))) (λ f hf=>.inr (.inl (hA f hf))) hW.z.fit) (L0 hW.z) (by omega) (by omega) hys (by omega) _ _ hrt hro hpl))) (h:=λ x20 h20=>?_)
  obtain⟨hx1,hx2⟩:=h20
  have hln:0<x20.l.length:=by
   have:=congrArg List.length hx1
   rw[List.length_map] at this
   have:=List.length_pos_iff.2 hne
   omega
  refine aN ?_;refine iP ?_;refine iP ?_;refine iP ?_;refine kN (h:=λ _=>?_);refine Oz ?_;refine kT ?_;refine Dg ?_
  (refine Ka3 ?_)
  ((refine aE ?_;refine dR ?_));refine wX ?_;refine aH ?_
  refine bC (λ c30=>?_) (λ c30=>?_)
  · exfalso;have c30':x20.l.length=0:=by simpa using c30
    omega
  · refine Dc ?_;refine aA ?_;refine dR ?_;refine aD (xA (hc:=λ w1 hw=>eR x20.l.length (hw.tape dC (.bJ (Ad.rM hT)) hl) (by omega) (by omega))) (λ x36 h36=>?_);refine aC (nu (lst:=x20.l) (g:=vF.cells) (sz:=5) (k:=x36) (λ _=>rfl) (by decide) rf rf gE eT (.new (Ad.rM (List.mem_cons_self ..))) (by omega) (by omega)) rfl ?_;refine aC (ri (lst:=x20.l) (g:=vF.cells) (sz:=5) (q:=x36) p9 (λ _=>rfl) rf eT (.new (Ad.rM (List.mem_cons_self ..))) (by omega)) rfl ?_;refine Br ?_
    refine bE Tryz.results23 (λ w hw=>?_)
    have hmem:(x20.l.getD x36 p9).p∈q.1:=by rw[<- hx1,List.mem_map];exact⟨x20.l.getD x36 p9,by rw[iM,List.getElem?_eq_getElem (show x36<x20.l.length by omega)];exact List.getElem_mem _,rfl⟩
    refine⟨x20.l.getD x36 p9,rfl,⟨hq _ hmem,r,q,hro,hpl,hmem⟩,?_⟩
    · exact hw.ret (by repeat (first|exact List.Sublist.refl _|apply List.Sublist.cons)) aY.nil (List.Sublist.refl _)
end
section
abbrev od:Nd:={Nd.zero with kind:=3}
def Kx:Mm:=mm0.push (od.c [] []) 3
def Ps:Tr:=jT ⟨3,false⟩ 4 3 5 λ ok=>.done (kF 0 ok)
theorem A8:bU Ps 20 64:=by
 have h:Ps=kZ ⟨2,⟨3,false⟩,4,3,5,0,0,0,⟨#[]⟩,0,0,0,false⟩ 0 21:=by
  unfold Ps kZ
  rfl
 rw[h]
 exact K6 (by decide)
theorem zk:lG (Ct.gX Ps Kx) 9=(.done (kF 0 true),(lG (Ct.gX Ps Kx) 9).2)/\vB (Ct.gX Ps Kx) 9=5/\aW (lG (Ct.gX Ps Kx) 9).2.cs 2=5/\(aS (lG (Ct.gX Ps Kx) 9).2.nodes 4).main=2/\(lG (Ct.gX Ps Kx) 9).2.nodes.length=5:=⟨rfl,rfl,rfl,rfl,rfl⟩
theorem yc:(Ct.gX Ps Kx).2.nodes.length=5/\(Ct.gX Ps Kx).2.cs.length=4:=⟨rfl,rfl⟩
theorem o6{D:List Nat}{A B F:Fr}{a0 a:AS}{b bt:Nat}{c:Cd}{w:World}(hp:tY b (Ct.gX Ps Kx) a0 B (c,F,a))(hA:∀f∈aM a.L,f∈A)(hB:∀x∈F++B,x∈A)(hs:SF w D [(bt,tO b c 0),(b,gH a)] A [] (gK a) w) :
  Calls Tryz.prog 30 #[.pointer (some ⟨bt,0,none⟩),.int .i64 9] w λ e w'=>∃y:Fr×AS,e=.returned (.int .i64 5)/\(aW y.2.cs 2=5/\(aB (cP y.2.L) 4).nd.main=2/\y.2.Ok/\y.2.mm.Small/\a.jZ y.2 y.1/\(4:Int)<=y.2.mm.nodes.length)/\SF w D [(bt,tO b (Ht (kF 0 true)) 5),(b,gH y.2)] [] y.1 (gK y.2) w':=by
 obtain⟨e1,e2,e3,e4,e5⟩:=zk
 obtain⟨g1,g2⟩:=yc
 refine(az (n:=0) (m:=20) (most:=9) hp (oO Kx A8) (mC Kx A8 64) (by decide) ⟨by omega,by omega⟩ (by decide) hA hB hs).mono λ e w' ⟨y,h1,h2,hw⟩=>?_
 have h3:=h2.rp
 rw[e1] at h3
 obtain⟨_,h4⟩:=h3
 have h5:y.2.2.cs=(lG (Ct.gX Ps Kx) 9).2.cs:=congrArg Mm.cs h2.mm
 have h7:(cP y.2.2.L).map aP.c=(lG (Ct.gX Ps Kx) 9).2.nodes:=congrArg Mm.nodes h2.mm
 obtain⟨_,_,_,h6⟩:=Ax (mC Kx A8 64) (oO Kx A8) 9 (by decide) (s:=(Ct.gX Ps Kx).2)
 have h6':(lG (Ct.gX Ps Kx) 9).2.cs.length<=(Ct.gX Ps Kx).2.cs.length+64*9:=h6
 rw[e2,h4] at hw
 refine⟨(y.2.1,y.2.2),by rw[h1,e2];rfl,⟨by show aW y.2.2.cs 2=5;rw[h5];exact e3,?_,h2.ok,?_,h2.gr,?_⟩,hw⟩
 ·rw[<- h7,<- rA] at e4
  exact e4
 ·rw[h2.mm]
  exact⟨by rw[e5];decide,by omega⟩
 ·show(4:Int)<=y.2.2.mm.nodes.length
  rw[h2.mm,e5];decide
set_option maxRecDepth 100000 in
set_option maxHeartbeats 1000000 in
theorem Yz(w:World):Calls Tryz.prog 72 #[] w λ e w'=>∃q:Nat×AS,e=.returned (.tuple #[.pointer (some ⟨q.1,0,none⟩),.agg ⟨[.int .i64 3,.bool false]⟩,.int .i64 4,.int .i64 3,.int .i64 5])/\(q.2.mm=Kx/\q.2.Ok)/\SF w [] [(q.1,gH q.2)] [] (aM q.2.L) (gK q.2) w':=by
 refine enter Tryz.func72 Tryz.ntmps72 rfl rfl (SF.s0 w) ?_
 simp only[cC]
 refine J0 ?_;refine fX (λ _=>?_);refine aK (λ x1=>?_);refine fX (λ _=>?_);refine J8 ?_;refine J0 ?_;refine aD (Ul (Fc:=λ _=>[]) (hc:=λ w1 hw=>nl w1)) (λ x6 h6=>?_);refine Ka5 ?_;refine aD (cM (hc:=λ w hs=>Rh hs)) (λ x8 h8=>?_);refine J5 ?_;refine I1 ?_;refine aC (aT (k:=3) rf dC eT (by simp only[List.drop_zero,List.take_succ_cons,List.take_zero];exact rfl) rfl) rfl ?_;refine aD (Ul (V:=λ x:Nat×List aP×(Option Addr×Nat)×(Option Addr×Nat)=>.tuple #[.pointer (some ⟨x.1,0,none⟩),.int .i64 0]) (Hc:=λ x=>[(x.1,aO x.2.1 [0,3,4] 1 0 x.2.2.1.1 x.2.2.1.2 x.2.2.2.1 x.2.2.2.2)]) (Fc:=λ x=>aM x.2.1) (Oc:=λ x=>mW x.2.1 [0,3,4] x.2.2.1.1 x.2.2.1.2 x.2.2.2.1 x.2.2.2.2) (hc:=λ w1 hw=>fj (L:=L4 x8.1 x8.2.1) (cs:=[0,3,4]) (hw.Gm (.inr (.inr (.inr ⟨_,.head _,rfl,rfl⟩))) (.inr (.inr (.inr ⟨_,.tail _ (.head _),rfl,rfl⟩))) (λ f hf=>.inl (jo f hf)) (Wh x8.1 x8.2.1 0 none 0 none 0).fit) (by show 4<=_;decide) (by decide) (hw.yi .head) (Yo _ _))) (λ x14 h14=>?_)
 obtain⟨a0,ha0⟩:∃a:AS,a=⟨x14.2.1,[0,3,4],1,0,x14.2.2.1.1,x14.2.2.1.2,x14.2.2.2.1,x14.2.2.2.2⟩:=⟨_,rfl⟩
 have hmm:a0.mm=mm0:=by rw[ha0];show Mm.mk ((cP x14.2.1).map aP.c) [0,3,4] 1=mm0;rw[h14.1];rfl
 have hok:a0.Ok:=⟨by rw[ha0];exact h14.2,by rw[hmm];exact(Wh x8.1 x8.2.1 0 none 0 none 0).mo⟩
 have hsm:a0.mm.Small:=by rw[hmm];exact⟨by decide,by decide⟩
 have hoA:∀x:AX,(a0.al od [] [] 3 x).Ok:=λ x=>hok.al x (by simp) (by simp) ⟨bK _,bK _,bK _,(λ r hr=>nomatch hr),bK _,bK _,bK _,⟨0,rfl,by decide⟩,⟨0,rfl,by decide⟩⟩ (by rw[hmm];decide)
 have hmA:∀x:AX,(a0.al od [] [] 3 x).mm=Kx:=λ x=>by rw[tR,hmm];rfl
 refine N0 ?_;refine jF ?_;refine J2 ?_;refine uI ?_
 refine bC (λ c18=>?_) (λ c18=>?_)
 ·cases c18
 ·refine kW ?_;refine eC [(0,[]),(1,[]),(2,[]),(3,[]),(4,[1]),(5,[1]),(6,[]),(7,[]),(8,[]),(9,[])] ?_;refine aN ?_;refine bT ?_;refine aN ?_;refine iH ?_;refine bB (i:=4) (hq:=(cM (V:=λ _:AX=>.int .i64 5) (hs:=[(x14.1,gH a0)]) (os:=gK a0) (A0:=[(none,aG []),(none,cY [])]) (hs':=λ x=>[(x14.1,gH (a0.al od [] [] 3 x))]) (os':=λ x=>gK (a0.al od [] [] 3 x)) (Fc:=λ x=>(nM od [] [] a0.cs.length x).fr) (hH:=by rw[ha0];exact .cons .head .nil) (hO:=by rw[ha0];exact .cons .head (.cons .head .nil)) (hc:=λ w1 hw=>by have:=Gt (n:=od) (xs:=[]) (ys:=[]) hok hsm 3 rfl rfl (by simp) (by simp) (λ f hf=>hf) hw;rw[hmm] at this;exact this))) (h:=λ x24 h24=>?_);refine kN (h:=λ _=>?_);refine oC (h:=λ _=>?_);refine kN (h:=λ _=>?_);refine Oz ?_
  refine bE Tryz.results72 (λ w hw=>?_)
  have hw:=hw.eW (F':=aM (a0.al od [] [] 3 x24).L) λ f hf=>((AS.jZ.al a0 od [] [] 3 x24).fam f hf).imp_right λ h=>h.elim (λ h=>List.mem_append_right _ (by rw[ha0] at h;exact List.mem_append_left _ h)) λ h=>List.mem_append_left _ h
  exact⟨(x14.1,a0.al od [] [] 3 x24),rfl,⟨hmA x24,hoA x24⟩,hw.ret (by repeat (first|exact List.nil_sublist _|apply List.Sublist.cons_cons)) aY.all (by repeat (first|exact List.nil_sublist _|apply List.Sublist.cons_cons))⟩
set_option maxRecDepth 100000 in
set_option maxHeartbeats 1000000 in
theorem Kq(w:World):Calls Tryz.prog 27 #[] w λ e w'=>e=.returned (.bool true)/\St w [] [] w':=by
 refine enter Tryz.func27 Tryz.ntmps27 rfl rfl (SF.s0 w) ?_
 simp only[cC]
 refine cX ?_;refine J0 ?_;refine aD (Ul (V:=λ q:Nat×AS=>.tuple #[.pointer (some ⟨q.1,0,none⟩),.agg ⟨[.int .i64 3,.bool false]⟩,.int .i64 4,.int .i64 3,.int .i64 5]) (Hc:=λ q=>[(q.1,gH q.2)]) (Fc:=λ q=>aM q.2.L) (Oc:=λ q=>gK q.2) (hc:=λ w1 hw=>Yz w1)) (λ x8 h8=>?_)
 obtain⟨hmm,hok⟩:=h8
 refine N0 ?_;refine J54 ?_;refine Bo ?_;refine aK (λ x2=>?_);refine fX (λ _=>?_);refine kQ (λ _=>?_);refine fX (λ _=>?_);refine Kb1 ?_;refine uI ?_
 refine bC (λ c15=>?_) (λ c15=>?_)
 ·try (contradiction)
 ·try (first|contradiction|(exfalso;omega))
  refine aZ ?_;refine J2 ?_;refine aC (u7 rf (λ w=>Jq _ w)) rfl ?_;refine bR ?_;refine pK ?_;refine aA ?_;refine aD (y3 (V:=λ x:Nat×Cd×Fr×AS=>.pointer (some ⟨x.1,0,none⟩)) (hs:=[(x8.1,gH x8.2)]) (os:=gK x8.2) (hs':=λ x=>[(x8.1,gH x.2.2.2)]) (Hc:=λ x=>[(x.1,tO x8.1 x.2.1 0)]) (os':=λ x=>gK x.2.2.2) (Oc:=λ _=>[]) (Fc:=λ x=>x.2.2.1) (A0:=aM x8.2.L) (hA:=bG.of λ f hf=>.inr (.inr (.inl (by simpa using hf)))) (hc:=λ w1 hw=>by have:=Vo (Oh (t:=⟨3,false⟩) (i:=4) (bJ:=3) (nw:=5) (B:=[]) (n:=20) (m:=64) (by decide) (by rw[hmm];decide) (by rw[hmm];decide) A8 hok (by rw[hmm];exact⟨by decide,by decide⟩) (λ f hf=>hf) (λ x hx=>nomatch hx) hw);rw[hmm] at this;exact this)) (λ x22 h22=>?_);refine Ka5 ?_;refine nD ?_;refine aA ?_
  (refine Ka3 ?_)
  ((refine aE ?_;refine aD (cM (V:=λ y:Fr×AS=>.int .i64 5) (hs:=[(x22.1,tO x8.1 x22.2.1 0),(x8.1,gH x22.2.2.2)]) (os:=gK x22.2.2.2) (hs':=λ y=>[(x22.1,tO x8.1 (Ht (kF 0 true)) 5),(x8.1,gH y.2)]) (os':=λ y=>gK y.2) (Fc:=λ y=>y.1) (A0:=aM x22.2.2.2.L++(x22.2.2.1++[])) (hA:=bG.of λ f hf=>(List.mem_append.1 hf).elim (λ h=>(h22.1.2.2.fam f h).imp_right λ h=>.inr (.inl (h.elim (λ h=>List.mem_append_right _ (by simpa using h)) λ h=>List.mem_append_left _ h))) λ h=>.inr (.inr (.inl (List.mem_append_left _ (by simpa using h))))) (hc:=λ w1 hw=>o6 h22.1 (λ f hf=>List.mem_append_left _ hf) (λ f hf=>List.mem_append_right _ hf) hw)) (λ x27 h27=>?_)));refine Ka8 ?_
  (refine Ka3 ?_)
  ((refine aE ?_;refine aQ (cV (hc:=λ w1 hw=>H5 (r:=kF 0 true) (d:=true) rfl (if_pos rfl) (hw.st.at dC))) (λ x32=>?_)));((refine aE ?_;refine cE ?_));refine Kb0 ?_
  (refine Ka3 ?_)
  ((refine Ka3 ?_));((refine Ka3 ?_));((refine aE ?_;refine aD (y3 (V:=λ q:Option Addr×Option Addr=>.agg ⟨((aB (cP x27.2.L) 4).at_ q.1 q.2).nd.cells⟩) (hs:=[(x8.1,gH x27.2)]) (os:=gK x27.2) (hs':=λ _=>[(x8.1,gH x27.2)]) (Hc:=λ _=>[]) (os':=λ _=>gK x27.2) (Oc:=λ q=>[⟨q.2,cY (aB (cP x27.2.L) 4).ys,(aB (cP x27.2.L) 4).ys.length,164,2⟩,⟨q.1,aG (aB (cP x27.2.L) 4).xs,(aB (cP x27.2.L) 4).xs.length,37,1⟩]) (Fc:=λ _=>[]) (A0:=aM x27.2.L) (hA:=bG.of λ f hf=>(h27.2.2.2.2.1.fam f hf).elim .inl λ h=>h.elim (λ h=>(h22.1.2.2.fam f h).imp_right λ h=>.inr (.inl (List.mem_append_right _ (h.elim (λ h=>List.mem_append_right _ (by simpa using h)) λ h=>List.mem_append_left _ h)))) λ h=>.inr (.inr (.inl (List.mem_append_left _ h)))) (hc:=λ w1 hw=>Lt h27.2.2.1 h27.2.2.2.1 (λ f hf=>hf) 4 h27.2.2.2.2.2 hw)) (λ x39 h39=>?_)));((refine aE ?_;refine aC (Lu rf (by exact Mt rfl) (show _=some (Value.int .i64 2) by rw[<- h27.2.1];rfl)) rfl ?_));((refine aE ?_;refine aD (cM (V:=λ _:Unit=>.int .i64 5) (hs:=[(x8.1,gH x27.2)]) (os:=gK x27.2) (hs':=λ _=>[(x8.1,gH {x27.2 with acc:=up x27.2.acc})]) (os':=λ _=>gK x27.2) (Fc:=λ _=>[]) (hc:=λ w1 hw=>by rw[<- h27.1];exact Nc hw 2 (by decide) (Nat.le_trans (show x27.2.cs.length<=137438953472 from h27.2.2.2.1.2) (by decide)))) (λ x41 h41=>?_)));((refine Ka3 ?_));refine wX ?_;refine J1 ?_
  refine aR Tryz.results27 (λ w hw=>?_)
  exact⟨rfl,hw.done⟩
end
end Go.Proofs.YtbajmaoegmbfgaaGreat
