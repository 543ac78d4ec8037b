/- Merged. -/
import Derived.Test.YtdeecdfockjoiaaGreatDoorGGc0
import Derived.Test.YtdeecdfockjoiaaGreatDoorGDu2
import Derived.Test.YtdeecdfockjoiaaGreatDoorTp2
import Derived.Test.YtdeecdfockjoiaaGreatDoorGPa2
set_option linter.unusedSimpArgs false
set_option linter.unusedVariables false
namespace Go.Proofs.YtdeecdfockjoiaaGreatDoor
open Go.Proofs.Tryz
open Go Go.RowKit Go.Ct
section
theorem Wr{b:Nat}{i m p prev:Int}{c:Bool}{K:Int->Tr}{s s2:Mm}{cd:Cd}{B:Fr}(hmm:m<=s.nodes.length)(hn:(aD s.nodes m).prev=prev)(h:eH b (cy prev p c λ _=>oC i m K) s cd s2 B):eH b (yG i m p c K) s cd s2 B:=by
 subst hn;unfold cy at h;unfold yG;split;·rename_i hc;rw[if_pos hc] at h;exact⟨hmm,h⟩
 ·rename_i hc;rw[if_neg hc] at h;exact⟨hmm,h⟩
section
variable{D:List Nat}{A B:Fr}{a:AS}{b:Nat}{w:World}{f:FuncId}{cap:yK}{t:oB}
variable{i m p prev:Int}{s:Mm}{bt bm bo bi bp:Nat}
theorem w4{K:Int->Tr}(hK:tJ b K s f cap B)(hi:i<=s.nodes.length)(hmm:m<=s.nodes.length)(hp:p<=s.nodes.length)(hns:p=0->Ns (K m) s):kF b 182 [pt bt,pt bm,pt bo,pt bi] [.int .i64 p] (bx bt [fn f cap]::bx bm [iv m]::bx bo (gI b t)::bx bi [iv i]::B) s (if p=0 then K m else og i m p K):=by
 intro a D A w em ok hm0 hA hB hw0;subst em;refine K2l ?_;intro hm;have hK2:=hK.more (B2:=(bx bt [fn f cap]::bx bm [iv m]::bx bo (gI b t)::bx bi [iv i]::B)) (λ x hx=>by simp[hx]);refine enter func182 ntmps182 rfl rfl hw0 ?_;simp only[cN]
 refine J0 ?_;refine aJ (λ x6=>?_);refine Ke3 ?_;refine E2 ?_;refine aX (λ c8=>?_) (λ c8=>?_);·refine J0 ?_;refine K3b ?_;refine aA (fG bm [.int .i64 m] 0 hB rfl) rfl ?_;refine aI (Kc hK2.1 (hK2.2 m a.mm (Mm.Le.refl _) hmm (hns (by omega))) ok hm0 hA hB) (λ x11 h11=>?_);refine aM (cC λ _=>aC rf bI rf (aY _) cY rf dM) (λ _=>?_);refine aE ?_;refine bF results182 (λ w hw=>?_);refine⟨x11,rfl,⟨?_,h11.2⟩,hw.rN⟩;rw[if_pos (by omega)];exact h11.1
 ·refine Kc4 ?_;refine K2c ?_;refine aA (fG bm [.int .i64 m] 0 hB rfl) rfl ?_;refine aB ?_;refine K3b ?_;refine aI (gK (λ w1 hw=>Yb hK2 hi hmm hp ok hm hA hB hw)) (λ x17 h17=>?_);refine aM (cC λ _=>aC rf bI rf (aY _) cY rf dM) (λ _=>?_);refine aE ?_;refine bF results182 (λ w hw=>?_);refine⟨x17,rfl,⟨?_,h17.2⟩,hw.rN⟩;rw[if_neg (by omega)];exact h17.1
theorem tr{K:Int->Tr}(hK:tJ b K s f cap B)(hi:i<=s.nodes.length)(hmm:m<=s.nodes.length)(hpr:prev<=9223372036854775807)(hn:(aD s.nodes m).prev=prev)(o:Bool):kF b 181 [pt bp,pt bt,pt bm,pt bo,pt bi] [.bool o] (bx bp [iv prev]::bx bt [fn f cap]::bx bm [iv m]::bx bo (gI b t)::bx bi [iv i]::B) s (oC i m K):=by intro a D A w em ok hm0 hA hB hw0;subst em;refine K2l ?_;intro hm;refine enter func181 ntmps181 rfl rfl hw0 ?_;simp only[cN];refine J0 ?_;refine aJ (λ x7=>?_);refine Kb4 ?_;refine aA (fG bp [.int .i64 prev] 0 hB rfl) rfl ?_;refine K2m ?_;refine aH (cV (hc:=λ w1 hw=>nE _ _ _ w1)) (λ x10=>?_);refine aM (cC λ _=>aC rf bI rf (aY _) cY rf dM) (λ _=>?_);refine aE ?_;refine bF results181 (λ w hw=>?_);refine⟨(nF prev _ _,[],a),rfl,⟨⟨hmm,?_⟩,ok,AS.fF.refl a⟩,hw.rI⟩;dsimp only;rw[hn];exact⟨rfl,hpr,_,_,rfl,by kernel_rfl,λ p s1 l hp hns=>(w4 (bt:=bt) (bm:=bm) (bo:=bo) (bi:=bi) (hK.le l) E0f E0f hp (λ e=>by have h:Ns (if p=0 then K m else _) s1:=hns;rw[if_pos e] at h;exact h)).mr (λ y hy=>List.mem_cons_of_mem _ hy)⟩
theorem uz{cap:List Value}{K:Int->Tr}{r:Int}{bq ba:Nat}(hK:O4 b (λ _=>oC i m K) s f cap B)(hi:i<=s.nodes.length)(hmm:m<=s.nodes.length)(hp:p<=s.nodes.length)(hr:r<=s.nodes.length)(hn:(aD s.nodes m).prev=prev):kF b 185 [pt bo,pt bi,pt bp,pt bq,pt ba] [.int .i64 r] (bx bo (gI b t)::bx bi [iv i]::bx bp [iv prev]::bx bq [iv p]::bx ba [fn f cap]::B) s (.node r λ nr=>.node i λ ni=>yG i m p (nr.gen==ni.gen) K):=by
 intro a D A w em ok hm0 hA hB hw0;subst em;refine K2l ?_;intro hm;have hK2:=hK.more (B2:=(bx bo (gI b t)::bx bi [iv i]::bx bp [iv prev]::bx bq [iv p]::bx ba [fn f cap]::B)) (λ x hx=>by simp[hx]);have hpr:prev<=a.mm.cs.length:=by rw[<- hn];exact(ok.mo.at m).prev
 refine enter func185 ntmps185 rfl rfl hw0 ?_;simp only[cN];refine J0 ?_;refine aJ (λ x7=>?_);refine pJ ?_;refine eO [(0,[]),(1,[]),(2,[]),(5,[]),(6,[]),(7,[]),(3,[6,7]),(4,[]),(8,[]),(9,[]),(10,[]),(11,[])] ?_;refine bQ ?_;refine aS (i:=1) (hq:=(fG bo (gI b t) 0 hB rfl)) (h:=?_);refine aP ?_;refine bQ ?_;refine aS (i:=6) (hq:=(fG bo (gI b t) 0 hB rfl)) (h:=?_);refine aS (i:=7) (hq:=(fG bi [.int .i64 i] 0 hB rfl)) (h:=?_);refine bE (i:=3) (hq:=(oI r ok hm hA hr)) (hfire:=(λ _=>by(refine dE ?_;(repeat (first|exact aR.nil|refine aR.cons (by first|exact cR (hq:=fG bo (gI b t) 0 hB rfl)|exact cR (hq:=fG bi [.int .i64 i] 0 hB rfl)) ?_));done))) (h:=λ x12 h12=>?_);refine jI ?_;refine bE (i:=8) (hq:=(oI i ok hm hA hi)) (h:=λ x17 h17=>?_);refine jI ?_;refine uB ?_;refine J7 ?_;refine J0 ?_;refine aA (M2 bo (gI b t) 0 3 hB rfl rfl) rfl ?_;refine aA (fG bp [.int .i64 prev] 0 hB rfl) rfl ?_;refine aA (fG bq [.int .i64 p] 0 hB rfl) rfl ?_;refine aB ?_;refine aA (fG ba [fn f cap] 0 hB rfl) rfl ?_;refine aI (gK (λ w1 hw=>Kj (K:=λ _=>oC i m K) hK2 hpr hp ok hm hA hB hw)) (λ x25 h25=>?_);refine aM (cC λ _=>aC rf bI rf (aY _) cY rf dM) (λ _=>?_);refine aE ?_;refine bF results185 (λ w hw=>?_);refine⟨x25,rfl,⟨⟨hr,hi,?_⟩,h25.2⟩,hw.rN⟩;rw[cE,cE];exact Wr hmm hn h25.1
set_option maxRecDepth 100000 in
set_option maxHeartbeats 2000000 in
theorem rp{K:Int->Tr}(ht:t.root<=9223372036854775807)(hK:tJ b K s f cap B)(hi:i<=s.nodes.length)(hmm:m<=s.nodes.length)(hp:p<=s.nodes.length)(hn:(aD s.nodes m).prev=prev)(hns:p=0->Ns (K m) s):kF b 178 [pt bt,pt bm,pt bo,pt bi,pt bp] [.int .i64 p] (bx bt [fn f cap]::bx bm [iv m]::bx bo (gI b t)::bx bi [iv i]::bx bp [iv prev]::B) s (if p=0 then K m else .node p λ np=>if yE np then(if t.ro=true then yG i m p false K else m6 t λ r=>.node r λ nr=>.node i λ ni=>yG i m p (nr.gen==ni.gen) K) else og i m p K):=by
 intro a D A w em ok hm0 hA hB hw0;subst em;refine K2l ?_;intro hm;have hK2:=hK.more (B2:=(bx bt [fn f cap]::bx bm [iv m]::bx bo (gI b t)::bx bi [iv i]::bx bp [iv prev]::B)) (λ x hx=>by simp[hx]);have np:=pP ok p;have hpr:prev<=a.mm.cs.length:=by rw[<- hn];exact(ok.mo.at m).prev
 have hAg:O4 b (λ _=>oC i m K) a.mm 181 ⟨[],[.pointer (some ⟨bp,0,none⟩),.pointer (some ⟨bt,0,none⟩),.pointer (some ⟨bm,0,none⟩),.pointer (some ⟨bo,0,none⟩),.pointer (some ⟨bi,0,none⟩)]⟩ (bx bt [fn f cap]::bx bm [iv m]::bx bo (gI b t)::bx bi [iv i]::bx bp [iv prev]::B):=⟨by kernel_rfl,λ o s1 l _=>(tr (t:=t) (prev:=prev) (bp:=bp) (bt:=bt) (bm:=bm) (bo:=bo) (bi:=bi) (hK.le l) E0f E0f (nI hm hpr) (by rw[l.nd hmm];exact hn) o).mr (λ y hy=>by simp only[List.mem_cons] at hy ⊢;rcases hy with h|h|h|h|h|h<;>simp[h])⟩
 have hRt:∀x6 x8:Nat,tJ b (λ r=>.node r λ nr=>.node i λ ni=>yG i m p (nr.gen==ni.gen) K) a.mm 185 ⟨[],[.pointer (some ⟨bo,0,none⟩),.pointer (some ⟨bi,0,none⟩),.pointer (some ⟨bp,0,none⟩),.pointer (some ⟨x6,0,none⟩),.pointer (some ⟨x8,0,none⟩)]⟩ (bx x8 [.func (.func 181) #[] ⟨[.pointer (some ⟨bp,0,none⟩),.pointer (some ⟨bt,0,none⟩),.pointer (some ⟨bm,0,none⟩),.pointer (some ⟨bo,0,none⟩),.pointer (some ⟨bi,0,none⟩)]⟩]::bx x6 [iv p]::(bx bt [fn f cap]::bx bm [iv m]::bx bo (gI b t)::bx bi [iv i]::bx bp [iv prev]::B)):=λ x6 x8=>⟨by kernel_rfl,λ r s1 l hr _=>(uz (t:=t) (prev:=prev) (bo:=bo) (bi:=bi) (bp:=bp) (bq:=x6) (ba:=x8) (hAg.le l) E0f E0f E0f hr (by rw[l.nd hmm];exact hn)).mr (λ y hy=>by simp only[List.mem_cons] at hy ⊢;rcases hy with h|h|h|h|h|h<;>simp[h])⟩
 refine enter func178 ntmps178 rfl rfl hw0 ?_;simp only[cN];refine J0 ?_;refine bC (λ x6=>?_);refine aJ (λ x7=>?_);refine pJ ?_;refine oT ?_;refine E2 ?_;refine aX (λ c10=>?_) (λ c10=>?_);·refine J0 ?_;refine K3b ?_;refine aA (fG bm [.int .i64 m] 0 hB rfl) rfl ?_;refine aI (Kc hK2.1 (hK2.2 m a.mm (Mm.Le.refl _) hmm (hns (by omega))) ok hm0 hA hB) (λ x13 h13=>?_);refine aM (cC λ _=>aC rf bI rf (aY _) cY rf dM) (λ _=>?_);refine aE ?_;refine bF results178 (λ w hw=>?_);refine⟨x13,rfl,⟨?_,h13.2⟩,hw.rN⟩;rw[if_pos (by omega)];exact h13.1
 ·refine lL ?_;refine J0 ?_;refine aQ ?_;refine aA (fG bo (gI b t) 0 hB rfl) rfl ?_;refine bO ?_;refine aI (oI p ok hm hA hp) (λ x17 h17=>?_);refine aI (c0 (V:=.bool) (hc:=λ w1 hw=>fl ((aK (aV a.L) p).at_ x17.1 x17.2).nd w1)) (λ x18 h18=>?_);refine pU ?_;refine aX (λ c19=>?_) (λ c19=>?_);·refine J0 ?_;refine K2c ?_;refine aA (fG bm [.int .i64 m] 0 hB rfl) rfl ?_;refine bO ?_;refine K3b ?_;refine aI (gK (λ w1 hw=>Yb hK2 hi hmm hp ok hm hA hB hw)) (λ x25 h25=>?_);refine aM (cC λ _=>aC rf bI rf (aY _) cY rf dM) (λ _=>?_);refine aE ?_;refine bF results178 (λ w hw=>?_);refine⟨x25,rfl,⟨?_,h25.2⟩,hw.rN⟩;rw[if_neg (by omega)];refine⟨hp,?_⟩;rw[cE];dsimp only;rw[if_neg (λ hk=>by have h2:=h18.2 hk;rw[h2] at c19;cases c19)];exact h25.1
  ·refine Kc4 ?_;refine K2m ?_;refine aH (cC λ _=>qP (z:=.nilFunc) (by kernel_rfl) rfl) (λ x8=>?_);refine J5 ?_;refine aL ?_;refine J0 ?_;refine aQ ?_;refine aQ ?_;refine aA (fG bo (gI b t) 2 hB rfl) rfl ?_;refine aE ?_;refine aX (λ c29=>?_) (λ c29=>?_);·refine J0 ?_;refine aA (M2 bo (gI b t) 0 3 hB rfl rfl) rfl ?_;refine aA (fG bp [.int .i64 prev] 0 hB rfl) rfl ?_;refine bO ?_;refine bO ?_;refine aI (gK (λ w1 hw=>Kj (K:=λ _=>oC i m K) hAg hpr hp ok hm hA hB hw)) (λ x34 h34=>?_);refine aM (cC λ _=>aC rf bI rf (aY _) cY rf dM) (λ _=>?_);refine aE ?_;refine bF results178 (λ w hw=>?_);refine⟨x34,rfl,⟨?_,h34.2⟩,hw.rN⟩;rw[if_neg (by omega)];refine⟨hp,?_⟩;rw[cE];dsimp only;rw[if_pos (show yE (aK (aV a.L) p).c from h18.1 (by simpa using c19)),if_pos c29];exact Wr hmm hn h34.1
   ·refine rE (λ w h=>(show SF _ _ [_,(b,dV a),(a.u,a.po)] _ [_,_] _ w from(h.bS (.tail (.tail .head))).bS .head)) ?_;refine Kc4 ?_;refine aA (M2 bo (gI b t) 0 3 hB rfl rfl) rfl ?_;refine K2m ?_;refine aI (cM (V:=λ y:Cd×Fr×AS=>.agg ⟨y.1.cells⟩) (hs:=[(b,dV a),(a.u,a.po)]) (os:=iS a) (hs':=λ y=>[(b,dV y.2.2),(y.2.2.u,y.2.2.po)]) (os':=λ y=>iS y.2.2) (Fc:=λ y=>y.2.1) (A0:=bx x8 [.func (.func 181) #[] ⟨[.pointer (some ⟨bp,0,none⟩),.pointer (some ⟨bt,0,none⟩),.pointer (some ⟨bm,0,none⟩),.pointer (some ⟨bo,0,none⟩),.pointer (some ⟨bi,0,none⟩)]⟩]::bx x6 [iv p]::A) (hA:=bV.Tq) (hc:=λ w1 hw=>tu (K:=λ r=>.node r λ nr=>.node i λ ni=>yG i m p (nr.gen==ni.gen) K) (B:=bx x8 [.func (.func 181) #[] ⟨[.pointer (some ⟨bp,0,none⟩),.pointer (some ⟨bt,0,none⟩),.pointer (some ⟨bm,0,none⟩),.pointer (some ⟨bo,0,none⟩),.pointer (some ⟨bi,0,none⟩)]⟩]::bx x6 [iv p]::(bx bt [fn f cap]::bx bm [iv m]::bx bo (gI b t)::bx bi [iv i]::bx bp [iv prev]::B)) ht (hRt x6 x8) ok hm (λ f hf=>List.mem_cons_of_mem _ (List.mem_cons_of_mem _ (hA f hf))) (Hb hB) hw)) (λ x37 h37=>?_);refine aM (cC λ _=>aC rf bI rf (aY _) cY rf dM) (λ _=>?_);refine aE ?_;refine bF results178 (λ w hw=>?_);refine⟨(x37.1,x37.2.1++[bx x8 [.func (.func 181) #[] ⟨[.pointer (some ⟨bp,0,none⟩),.pointer (some ⟨bt,0,none⟩),.pointer (some ⟨bm,0,none⟩),.pointer (some ⟨bo,0,none⟩),.pointer (some ⟨bi,0,none⟩)]⟩],bx x6 [iv p]],x37.2.2),rfl,⟨?_,h37.2.1,h37.2.2.more (λ f hf=>List.mem_append_left _ hf)⟩,hw.rI⟩;rw[if_neg (by omega)];refine⟨hp,?_⟩;rw[cE];dsimp only;rw[if_pos (show yE (aK (aV a.L) p).c from h18.1 (by simpa using c19)),if_neg (by rw[c29];decide)];rw[List.append_assoc];exact h37.1
theorem Lg{K:Int->Tr}(ht:t.root<=9223372036854775807)(hK:tJ b K a.mm f cap B)(hi:i<=a.mm.nodes.length)(hmm:m<=a.mm.nodes.length)(ok:a.Ok)(hm:a.mm.Small)(hA:∀f∈dD a.L,f∈A)(hB:∀x∈B,x∈A)(hs:SF w D [(b,dV a),(a.u,a.po)] A [] (iS a) w) :
  Calls prog 146 #[.agg ⟨gI b t⟩,.int .i64 i,.int .i64 m,fn f cap] w (jP b (λ c' s' B'=>eH b (tQ t i m K) a.mm c' s' B') a B D w):=by
 have nm:=pP ok m;refine enter func146 ntmps146 rfl rfl hs ?_;simp only[cN]
 refine J0 ?_;refine bC (λ x4=>?_);refine bC (λ x5=>?_);refine bC (λ x6=>?_);refine bC (λ x7=>?_);refine aJ (λ x8=>?_);refine aE ?_;refine jN ?_;refine bO ?_;refine aI (oI m ok hm hA hmm) (λ x13 h13=>?_);refine nV ?_;refine aH (cC λ _=>qP (z:=.int .i64 0) (by kernel_rfl) rfl) (λ x9=>?_);refine J5 ?_;refine oT ?_;refine K2m ?_;refine aH (cV (hc:=λ w1 hw=>nE _ _ _ w1)) (λ x17=>?_);refine aM (cC λ _=>aC rf bI rf (aY _) cY rf dM) (λ _=>?_);refine aE ?_;refine bF results146 (λ w hw=>?_);refine⟨(nF (aK (aV a.L) m).nd.prev _ _,[bx x4 (gI b t),bx x5 [iv i],bx x6 [iv m],bx x7 [fn f cap],bx x9 [iv (aK (aV a.L) m).nd.prev]],a),rfl,⟨⟨hmm,?_⟩,ok,(AS.fF.refl a).more (λ _ h=>(List.not_mem_nil h).elim)⟩,?_⟩;·rw[cE];refine⟨rfl,nI hm nm.prev,_,_,rfl,by kernel_rfl,λ p s1 l hp hns=>(rp (bt:=x7) (bm:=x6) (bo:=x4) (bi:=x5) (bp:=x9) (prev:=(aK (aV a.L) m).nd.prev) ht (hK.le l) E0f E0f hp (by rw[l.nd hmm,cE];rfl) (λ e=>by have h:Ns (if p=0 then K m else _) s1:=hns;rw[if_pos e] at h;exact h)).mr (λ y hy=>?_)⟩;simp only[List.mem_cons,List.mem_append,List.not_mem_nil,or_false] at hy ⊢;rcases hy with h|h|h|h|h|h<;>simp[h]
 ·exact(((((hw.bS .head).bS (.tail .head)).bS (.tail .head)).bS (.tail .head)).bS (.tail .head)).rI
end
end
section
section
variable{D:List Nat}{A B:Fr}{a:AS}{b:Nat}{w:World}{f:FuncId}{cap:yK}{t:oB}
variable{i m n:Int}{s:Mm}{bt bo bi bn:Nat}
theorem ob{K:Int->Tr}(ht:t.root<=9223372036854775807)(hK:tJ b K s f cap B)(hi:i<=s.nodes.length)(hmm:m<=s.nodes.length):kF b 145 [pt bo,pt bi,pt bt] [.int .i64 m] (bx bo (gI b t)::bx bi [iv i]::bx bt [fn f cap]::B) s (tQ t i m K):=by
 intro a D A w em ok hm0 hA hB hw0;subst em;refine K2l ?_;intro hm;have hK2:=hK.more (B2:=(bx bo (gI b t)::bx bi [iv i]::bx bt [fn f cap]::B)) (λ x hx=>by simp[hx]);refine enter func145 ntmps145 rfl rfl hw0 ?_;simp only[cN]
 refine J0 ?_;refine aJ (λ x5=>?_);refine Kb4 ?_;refine K2c ?_;refine aB ?_;refine K3b ?_;refine aI (gK (λ w1 hw=>Lg ht hK2 hi hmm ok hm hA hB hw)) (λ x10 h10=>?_);refine aM (cC λ _=>aC rf bI rf (aY _) cY rf dM) (λ _=>?_);refine aE ?_;refine bF results145 (λ w hw=>?_);exact⟨x10,rfl,h10,hw.rN⟩
theorem qY{K:Int->Tr}(ht:t.root<=9223372036854775807)(hK:tJ b K a.mm f cap B)(hi:i<=a.mm.nodes.length)(ok:a.Ok)(hm:a.mm.Small)(hA:∀f∈dD a.L,f∈A)(hB:∀x∈B,x∈A)(hs:SF w D [(b,dV a),(a.u,a.po)] A [] (iS a) w) :
  Calls prog 102 #[.agg ⟨gI b t⟩,.int .i64 i,fn f cap] w (jP b (λ c' s' B'=>eH b (nG t i K) a.mm c' s' B') a B D w):=by
 have ni:=pP ok i;refine enter func102 ntmps102 rfl rfl hs ?_;simp only[cN]
 refine K3f ?_;intro x3;refine bC (λ x4=>?_);refine K3k ?_;intro x5 x6;refine jN ?_;refine bO ?_;refine aI (oI i ok hm hA hi) (λ x10 h10=>?_);refine nV ?_;refine K2m ?_;refine aH (cV (hc:=λ w1 hw=>nE _ _ _ w1)) (λ x13=>?_);refine aM (cC λ _=>aC rf bI rf (aY _) cY rf dM) (λ _=>?_);refine aE ?_;refine bF results102 (λ w hw=>?_);refine⟨(nF (aK (aV a.L) i).nd.main _ _,[bx x3 (gI b t),bx x4 [iv i],bx x5 [fn f cap]],a),rfl,⟨⟨hi,?_⟩,ok,(AS.fF.refl a).more (λ _ h=>(List.not_mem_nil h).elim)⟩,?_⟩;·rw[cE];exact⟨rfl,nI hm ni.main,_,_,rfl,by kernel_rfl,λ m s1 l hmm _=>ob (bo:=x3) (bi:=x4) (bt:=x5) ht (hK.le l) E0f hmm⟩
 ·exact(((hw.bS (.tail .head)).bS (.tail .head)).bS (.tail .head)).rI
theorem dx{K:Bool->Tr}(hK:O4 b K s f cap B)(hns:Ns (K (m==n)) s):kF b 281 [pt bt,pt bn] [.int .i64 m] (bx bt [fn f cap]::bx bn [iv n]::B) s (K (m==n)):=by
 intro a D A w em ok hm0 hA hB hw0;subst em;refine K2l ?_;intro hm;have hK2:=hK.more (B2:=(bx bt [fn f cap]::bx bn [iv n]::B)) (λ x hx=>by simp[hx]);refine enter func281 ntmps281 rfl rfl hw0 ?_;simp only[cN]
 refine K2f ?_;intro x4;refine Kb4 ?_;refine K3b ?_;refine aB ?_;refine aA (fG bn [.int .i64 n] 0 hB rfl) rfl ?_;refine gM ?_;refine aI (Kc hK2.1 (hK2.2 (m==n) a.mm (Mm.Le.refl _) hns) ok hm0 hA hB) (λ x9 h9=>?_);refine aM (cC λ _=>aC rf bI rf (aY _) cY rf dM) (λ _=>?_);refine aE ?_;refine bF results281 (λ w hw=>?_);exact⟨x9,rfl,h9,hw.rN⟩
theorem ma{K:Bool->Tr}(ht:t.root<=9223372036854775807)(hK:O4 b K s f cap B)(hi:i<=s.nodes.length)(hnn:n<=s.nodes.length)(o:Bool)(hns:o=false->Ns (K false) s):kF b 280 [pt bt,pt bo,pt bi,pt bn] [.bool o] (bx bt [fn f cap]::bx bo (gI b t)::bx bi [iv i]::bx bn [iv n]::B) s (if o=true then tQ t i n λ m=>K (m==n) else K false):=by
 intro a D A w em ok hm0 hA hB hw0;subst em;refine K2l ?_;intro hm;have hK2:=hK.more (B2:=(bx bt [fn f cap]::bx bo (gI b t)::bx bi [iv i]::bx bn [iv n]::B)) (λ x hx=>by simp[hx])
 have hT:tJ b (λ m=>K (m==n)) a.mm 281 ⟨[],[.pointer (some ⟨bt,0,none⟩),.pointer (some ⟨bn,0,none⟩)]⟩ (bx bt [fn f cap]::bx bo (gI b t)::bx bi [iv i]::bx bn [iv n]::B):=⟨by kernel_rfl,λ m s1 l hv hns=>(dx (bt:=bt) (bn:=bn) (hK.le l) hns).mr (λ y hy=>by simp only[List.mem_cons] at hy ⊢;rcases hy with h|h|h<;>simp[h])⟩
 refine enter func280 ntmps280 rfl rfl hw0 ?_;simp only[cN];refine J0 ?_;refine aJ (λ x6=>?_);refine aE ?_;refine Kb9 ?_;refine aX (λ c8=>?_) (λ c8=>?_);·refine J0 ?_;refine K3b ?_;refine aI (Kc hK2.1 (hK2.2 false a.mm (Mm.Le.refl _) (hns (by simpa using c8))) ok hm0 hA hB) (λ x10 h10=>?_);refine aM (cC λ _=>aC rf bI rf (aY _) cY rf dM) (λ _=>?_);refine aE ?_;refine bF results280 (λ w hw=>?_);refine⟨x10,rfl,⟨?_,h10.2⟩,hw.rN⟩;rw[if_neg (by rw[show o=false by simpa using c8];decide)];exact h10.1
 ·refine Kc4 ?_;refine K2c ?_;refine aA (fG bn [.int .i64 n] 0 hB rfl) rfl ?_;refine K2m ?_;refine aI (gK (λ w1 hw=>Lg ht hT hi hnn ok hm hA hB hw)) (λ x15 h15=>?_);refine aM (cC λ _=>aC rf bI rf (aY _) cY rf dM) (λ _=>?_);refine aE ?_;refine bF results280 (λ w hw=>?_);refine⟨x15,rfl,⟨?_,h15.2⟩,hw.rN⟩;rw[if_pos (by simpa using c8)];exact h15.1
theorem Ot{K:Bool->Tr}{old:Int}(ht:t.root<=9223372036854775807)(hK:O4 b K a.mm f cap B)(hi:i<=a.mm.nodes.length)(hnn:n<=a.mm.nodes.length)(ok:a.Ok)(hm:a.mm.Small)(hA:∀f∈dD a.L,f∈A)(hB:∀x∈B,x∈A)(hs:SF w D [(b,dV a),(a.u,a.po)] A [] (iS a) w) :
  Calls prog 248 #[.agg ⟨gI b t⟩,.int .i64 i,.int .i64 old,.int .i64 n,fn f cap] w (jP b (λ c' s' B'=>eH b (iN t i old n K) a.mm c' s' B') a B D w):=by
 have ni:=pP ok i;refine enter func248 ntmps248 rfl rfl hs ?_;simp only[cN]
 refine J0 ?_;refine bC (λ x5=>?_);refine bC (λ x6=>?_);refine bC (λ x8=>?_);refine bC (λ x9=>?_);refine aJ (λ x10=>?_);refine pJ ?_;refine eO [(0,[]),(1,[]),(2,[]),(5,[]),(6,[]),(7,[]),(3,[6]),(4,[]),(8,[]),(9,[])] ?_;refine hY ?_;refine bH ?_;refine aP ?_;refine bH ?_;(refine cD (i:=7) (hq:=bU) (h:=?_));refine bE (i:=3) (hq:=(oI i ok hm hA hi)) (h:=λ x14 h14=>?_);refine jI ?_;refine bR (i:=8) (hq:=(cV (hc:=λ w1 hw=>sY _ _ _ _ _ w1))) (h:=λ x19=>?_);refine eT (i:=9) (hq:=(cC λ _=>aC rf bI rf (aY _) cY rf dM)) (h:=λ _=>?_);refine dA ?_;refine bF results248 (λ w hw=>?_);refine⟨(uK (aK (aV a.L) i).nd.main old n _ _,[bx x5 (gI b t),bx x6 [iv i],bx x8 [iv n],bx x9 [fn f cap]],a),rfl,⟨⟨hi,?_⟩,ok,(AS.fF.refl a).more (λ _ h=>(List.not_mem_nil h).elim)⟩,?_⟩;·rw[cE];refine⟨rfl,nI hm ni.main,hnn,_,_,rfl,by kernel_rfl,λ o s1 l hns=>(ma (bt:=x9) (bo:=x5) (bi:=x6) (bn:=x8) ht (hK.le l) E0f E0f o (λ e=>by have h:Ns (if o=true then _ else K false) s1:=hns;rw[if_neg (by rw[e];decide)] at h;exact h)).mr (λ y hy=>?_)⟩;simp only[List.mem_cons,List.mem_append,List.not_mem_nil,or_false] at hy ⊢;rcases hy with h|h|h|h|h<;>simp[h]
 ·exact((((hw.bS (.tail .head)).bS (.tail .head)).bS (.tail .head)).bS (.tail .head)).rI
end
end
section
theorem pZ(key:ByteArray){m:Nat}(hm:m<18446744073709551616)(hk:key.size<=4611686018427387903)(w:World):Calls prog 90 #[.string key,.int .u64 (m:Int)] w λ e w'=>e=.returned (.int .u64 ((mV key m:Nat):Int))/\St w [] [] w':=by
 refine enter func90 ntmps90 rfl rfl (SF.s0 w) ?_;simp only[cN];refine eD ?_;refine Ka9 ?_;refine pW ?_;refine Ka7 ?_;refine kP [5,6,9,10,11,12,13,14,15,16,17,18,19,20] (λ y:Nat=>[(9,.int .i64 ((y:Nat):Int)),(5,.int .u64 ((hsN key y:Nat):Int))]) (λ y=>y<=key.size) (λ y=>key.size-y) (0) (Nat.zero_le _) ?_ (λ y f hx=>?_);·repeat (first|exact bX _|refine bL (by exact rfl) ?_)
 refine K4a ?_;refine aX (λ c10=>?_) (λ c10=>?_)
 ·refine Ka6 ?_;refine Jo ?_;refine aB ?_;refine aH (kK (aAl (s:=key) (i:=y) rf rf (by kernel_rfl) (by omega))) (λ x15=>?_);refine aA (Mo (k2:=.u8) rf (by kernel_rfl) (by exact rD rfl) ⟨fN _,by have:=dp key y;omega⟩) rfl ?_;refine aA (aA5 rf rf (To _ _) (by have:=dp key y;omega)) rfl ?_;refine J1 ?_;refine Cg ?_;refine aA (aAj rf rf) rfl ?_;refine Kd8 ?_;refine hJ (y+1) ?_ ?_ ?_;·omega
  ·repeat' (first|exact bX _|refine bL ?_ ?_)
   all_goals (exact rfl)
  ·omega
 ·refine K1z ?_;refine lV ?_;refine aA (my rf rf (To _ _) hm) rfl ?_;refine J1 ?_;refine bJ results90 (λ w hw=>?_);have hy:y=key.size:=by omega
  subst hy;exact⟨rfl,hw.done⟩
theorem sA(key:ByteArray)(w:World):Calls prog 62 #[.string key] w λ e w'=>e=.returned (.bool (decide (key.size<=64)))/\St w [] [] w':=by refine enter func62 ntmps62 rfl rfl (SF.s0 w) ?_;simp only[cN];refine Kd3 ?_;refine pW ?_;refine yC ?_;refine J1 ?_;refine bJ results62 (λ w hw=>?_);exact⟨by rw[show decide (key.size<=64)=decide ((key.size:Int)<=64) from decide_eq_decide.2 (by omega)];rfl,hw.done⟩
theorem tF{h:Nat}(hh:h<18446744073709551616)(level:Int)(w:World):Calls prog 140 #[.int .u64 (h:Int),.int .i64 level] w λ e w'=>e=.returned (.int .i64 (oU h level))/\St w [] [] w':=by
 by_cases hl:level<0∨10<level
 ·unfold oU;rw[if_pos hl];refine enter func140 ntmps140 rfl rfl (SF.s0 w) ?_;simp only[cN];refine Ka9 ?_;refine Ph ?_;(refine mN 7 (λ g7=>?_) (λ g7=>?_)<;>refine Ka3 ?_);all_goals ((first|refine aZ ?_|(refine aF ?_;refine iF ?_));refine Kb1 ?_)
  all_goals
  refine aX (λ c10=>?_) (λ c10=>?_)
  ·all_goals try (exfalso;omega)
   all_goals refine eD ?_
   all_goals refine bJ results140 (λ w hw=>?_);exact⟨rfl,hw.done⟩
  ·try exact nv c10
   all_goals try (exfalso;omega)
 ·obtain⟨l,rfl⟩:∃l:Nat,level=(l:Int):=⟨level.toNat,by omega⟩;unfold oU;rw[if_neg hl];exact nP (l:=l) hh (by omega) w
theorem Gr(v:Int)(w:World):Calls prog 144 #[.int .u64 v] w λ e w'=>e=.returned (.agg ⟨(fE (eG true v)).cells⟩)/\St w [] [] w':=by refine enter func144 ntmps144 rfl rfl (SF.s0 w) ?_;simp only[cN];refine J0 ?_;refine aJ (λ x2=>?_);refine Kb5 ?_;refine cI ?_;refine aH (cV (hc:=λ w1 hw=>oX (eG true v) w1)) (λ x5=>?_);refine aM (cC λ _=>aC rf bI rf (aY _) cY rf dM) (λ _=>?_);refine aE ?_;refine bF results144 (λ w hw=>?_);exact⟨rfl,hw.done⟩
theorem wS(w:World):Calls prog 141 #[] w λ e w'=>e=.returned (.agg ⟨(fE (eG false 0)).cells⟩)/\St w [] [] w':=by refine enter func141 ntmps141 rfl rfl (SF.s0 w) ?_;simp only[cN];refine J0 ?_;refine aJ (λ x0=>?_);refine Kb4 ?_;refine cI ?_;refine aH (cV (hc:=λ w1 hw=>oX (eG false 0) w1)) (λ x2=>?_);refine aM (cC λ _=>aC rf bI rf (aY _) cY rf dM) (λ _=>?_);refine aE ?_;refine bF results141 (λ w hw=>?_);exact⟨rfl,hw.done⟩
abbrev Jn(b:Nat)(t:oB)(key:ByteArray)(h:Nat):List Value:=[.iface 63 (.pointer (some ⟨b,0,none⟩)),.int .i64 t.root,.bool t.ro,.string key,.int .u64 (h:Int)]
theorem Xt{v:dW}{b bf h:Nat}{t:oB}{key:ByteArray}{w:World}(hf:Go.Ct.Cl w (some ⟨bf,0,none⟩) (Jn b t key h)):Calls prog 142 #[pt bf,.agg ⟨v.nd.cells⟩] w λ e w'=>e=.returned (.agg ⟨(fE (if v.c.key=key then eG true v.c.val else eG false 0)).cells⟩)/\St w [] [] w':=by
 refine enter func142 ntmps142 rfl rfl (SF.s1 hf) ?_;simp only[cN];refine K3f ?_;intro x3;refine aJ (λ x4=>?_);refine pJ ?_;refine K2b ?_;refine hY ?_;refine J9 ?_;refine aS (i:=5) (hq:=(fG (B:=[bx bf (Jn b t key h)]) bf (Jn b t key h) 3 (λ x hx=>hx) rfl)) (h:=?_);refine yb ?_;refine dA ?_;refine aX (λ c11=>?_) (λ c11=>?_);·refine jN ?_;refine aH (cV (hc:=λ w1 hw=>Gr _ w1)) (λ x14=>?_);refine aM (cC λ _=>aC rf bI rf (aY _) cY rf dM) (λ _=>?_);refine aE ?_;refine bF results142 (λ w hw=>?_);exact⟨by rw[if_pos (show v.c.key=key from(by simpa using c11:v.nd.key=key))];rfl,hw.done⟩
 ·refine Kc4 ?_;refine aH (cV (hc:=λ w1 hw=>wS w1)) (λ x15=>?_);refine aM (cC λ _=>aC rf bI rf (aY _) cY rf dM) (λ _=>?_);refine aE ?_;refine bF results142 (λ w hw=>?_);exact⟨by rw[if_neg (show ¬v.c.key=key from(by simpa using c11:¬v.nd.key=key))];rfl,hw.done⟩
section
variable{w:World}{v:dW}{n c:Nat}
theorem Mw(h:oP n c v.c)(i:Int)(hr:Cp w v.nd v.xs v.ys):Calls prog 139 #[v.nd.v,.int .i64 i] w λ e w'=>e=.returned (.tuple #[.int .i64 ((iU v.c i).getD 0),.bool (iU v.c i).isSome])/\St w [] [] w':=by obtain⟨b,h1,h2⟩:=h.bm;have h3:v.nd.bm=(b:Int):=h1;have:=eu (n:=v.nd) i h3 h2 hr;rw[aDj h3 i] at this;exact this
end
section
variable{l:List Pr}{a:Option Addr}{c:Nat}{k:ByteArray}{v:Int}{w:World}
theorem Uu(ha:Go.Ct.Cl w a (dF l))(hs:SA l)(hlen:l.length<=11728124029610) :
  Calls prog 216 #[.slice a l.length c,.string k,.func (.func 217) #[] #[]] w λ e w'=>∃i:Nat,e=.returned (.tuple #[.int .i64 (i:Int),.bool (decide (i<l.length/\(l.getD i (⟨#[]⟩,0)).1=k))])/\uG l k i/\St w [] [] w':=by
 refine enter func216 ntmps216 rfl rfl (SF.s1 ha) ?_;simp only[cN];refine Kq ?_;refine J2 ?_;refine cP ?_;refine Kb7 ?_;refine J8 ?_;refine Oy ?_;refine kP [9,10,11,15,16,17,18,19,20,21,22,23,24,25,26,27,28,29,30,31,32,33,34] (λ x:Nat×Nat=>[(9,.int .i64 ((x.1:Nat):Int)),(10,.int .i64 ((x.2:Nat):Int))]) (λ x=>x.1<=x.2/\x.2<=l.length/\(∀j,j<x.1->dR (l.getD j (⟨#[]⟩,0)).1 k=true)/\(∀j,x.2<=j->j<l.length->dR (l.getD j (⟨#[]⟩,0)).1 k=false)) (λ x=>x.2-x.1) ((0,l.length)) (⟨Nat.zero_le _,Nat.le_refl _,λ j hj=>absurd hj (Nat.not_lt_zero j),λ j h1 h2=>by omega⟩) ?_ (λ x f hx=>?_);·repeat (first|exact bX _|refine bL (by exact rfl) ?_)
 refine K0c ?_;refine qJ ?_;refine fX ?_;refine aX (λ c17=>?_) (λ c17=>?_)
 ·refine K1f ?_;intro x30;refine aX (λ c31=>?_) (λ c31=>?_)
  ·refine J70 ?_;refine eN ?_;refine hJ ((by exact aCq (p:=tV _ _<0) c31 ((x.1+x.2)/2+1,x.2))) ?_ ?_ ?_;·(simp only[];omega)
   ·repeat' (first|exact bX _|refine bL ?_ ?_)
    all_goals (exact rfl)
   ·obtain⟨q1,q2,q3,q4⟩:=hx
    first
    | exact⟨by show(x.1+x.2)/2+1<=x.2;omega,q2,Xh hs (by omega) (sR.1 c31),q4⟩
    | exact⟨by show x.1<=(x.1+x.2)/2;omega,by show(x.1+x.2)/2<=l.length;omega,q3,Wg hs (Gb.1 c31)⟩
  ·refine Cg ?_;refine J1 ?_;refine eN ?_;refine hJ ((by exact(x.1,(x.1+x.2)/2))) ?_ ?_ ?_;·omega
   ·repeat' (first|exact bX _|refine bL ?_ ?_)
    all_goals (exact rfl)
   ·obtain⟨q1,q2,q3,q4⟩:=hx
    first
    | exact⟨by show(x.1+x.2)/2+1<=x.2;omega,q2,Xh hs (by omega) (sR.1 c31),q4⟩
    | exact⟨by show x.1<=(x.1+x.2)/2;omega,by show(x.1+x.2)/2<=l.length;omega,q3,Wg hs (Gb.1 c31)⟩
 ·refine K1z ?_;refine lV ?_;refine aB ?_;refine Ph ?_;(refine mN 39 (λ g39=>?_) (λ g39=>?_)<;>refine Ka3 ?_);all_goals (refine Ka3 ?_;refine Ka3 ?_;(first|refine aZ ?_|(refine aF ?_;refine jC ?_));refine um ?_;((first|refine aZ ?_|(refine aF ?_;(refine aH (by(exact cVd (v:=.int .i64 (tV (l.getD x.1 (⟨#[]⟩,0)).1 k)) rf (by(repeat (first|exact cB _|(apply bK;focus ((conv=>{lhs;whnf});try exact rfl))));done) (by kernel_rfl) (λ w1 hw=>O6 _ k w1))) (λ x46=>?_)))));refine Co ?_;refine J8 ?_)
  all_goals
  refine bF results216 (λ w hw=>?_);obtain⟨q1,q2,q3,q4⟩:=hx;refine⟨x.1,?_,⟨by omega,q3,λ j h1 h2=>q4 j (by omega) h2⟩,hw.done⟩
  first
  | (rw[show(tV (l.getD x.1 (⟨#[]⟩,0)).1 k==0)=decide (x.1<l.length/\(l.getD x.1 (⟨#[]⟩,0)).1=k) by rw[Bool.eq_iff_iff];simp only[beq_iff_eq,decide_eq_true_eq,Xr];exact⟨λ h=>⟨by omega,h⟩,λ h=>h.2⟩];rfl)
  | (rw[show decide (x.1<l.length/\(l.getD x.1 (⟨#[]⟩,0)).1=k)=false from decide_eq_false (by omega)];rfl)
theorem mq(ha:Go.Ct.Cl w a (dF l))(hs:SA l)(hlen:l.length<=11728124029610) :
  Calls prog 177 #[.slice a l.length c,.string k] w λ e w'=>∃i:Nat,e=.returned (.tuple #[.int .i64 (i:Int),.bool (decide (i<l.length/\(l.getD i (⟨#[]⟩,0)).1=k))])/\uG l k i/\St w [] [] w':=by refine enter func177 ntmps177 rfl rfl (SF.s1 ha) ?_;simp only[cN];refine Kq ?_;refine lV ?_;refine aI (c0 (V:=λ i:Nat=>.tuple #[.int .i64 (i:Int),.bool (decide (i<l.length/\(l.getD i (⟨#[]⟩,0)).1=k))]) (hc:=λ w1 hw=>Uu (hw.cl fin) hs (by omega))) (λ x8 h8=>?_);refine K1s ?_;refine J8 ?_;refine bF results177 (λ w hw=>?_);exact⟨x8,rfl,h8,hw.done⟩
theorem ab(k:ByteArray)(ha:Go.Ct.Cl w a (dF l))(hlen:l.length<=11728124029610) :
  Calls prog 143 #[.slice a l.length c,.string k] w λ e w'=>e=.returned (.tuple #[.int .u64 ((cS l k).getD 0),.bool (cS l k).isSome])/\St w [] [] w':=by
 refine enter func143 ntmps143 rfl rfl (SF.s1 ha) ?_;simp only[cN];refine Kq ?_;refine gQ ?_;refine aI (c0 (V:=.bool) (hc:=λ w1 hw=>rS (hw.cl fin) (by omega))) (λ x9 h9=>?_);refine pU ?_;refine aX (λ c10=>?_) (λ c10=>?_);·refine Kq ?_;refine bF results143 (λ w hw=>?_);rw[show cS l k=none from if_neg λ hs=>by rw[h9.2 (pV.2 hs)] at c10;cases c10];exact⟨rfl,hw.done⟩
 ·have hs:SA l:=pV.1 (h9.1 (by simpa using c10));refine yO ?_;refine aI (c0 (V:=λ i:Nat=>.tuple #[.int .i64 (i:Int),.bool (decide (i<l.length/\(l.getD i (⟨#[]⟩,0)).1=k))]) (hc:=λ w1 hw=>mq (hw.cl fin) hs hlen)) (λ x14 h14=>?_);refine aB ?_;refine K1s ?_;refine Ke9 ?_;refine aX (λ c18=>?_) (λ c18=>?_)
  ·refine Kq ?_;refine bF results143 (λ w hw=>?_);have hnf:¬(x14<l.length/\(l.getD x14 (⟨#[]⟩,0)).1=k):=by simpa using c18
   rw[show cS l k=none from(if_pos hs).trans (oG (xE hs h14 hnf))];exact⟨rfl,hw.done⟩
  ·have hfd:x14<l.length/\(l.getD x14 (⟨#[]⟩,0)).1=k:=by simpa using c18
   have hx14:=hfd.1;refine yO ?_;refine jC ?_;refine J3 ?_;refine J8 ?_;refine bF results143 (λ w hw=>?_);rw[show cS l k=some (l.getD x14 (⟨#[]⟩,0)).2 from(if_pos hs).trans (Dj h14 hfd.1 hfd.2)];exact⟨rfl,hw.done⟩
end
theorem Zx{v:dW}{p:Option Addr}{c:Nat}{key:ByteArray}{w:World}(hf:v.Fit)(ha:Go.Ct.Cl w p (dF v.ys)):Calls prog 143 #[.slice p v.nd.prN c,.string key] w λ e w'=>e=.returned (.tuple #[.int .u64 ((cS v.ys key).getD 0),.bool (cS v.ys key).isSome])/\St w [] [] w':=by rw[hf.prN];exact ab key ha hf.prS
end
end Go.Proofs.YtdeecdfockjoiaaGreatDoor
namespace Go.Ct
open Go Go.RowKit
section
theorem aW.pre{P:Program}{S:List (Nat×Value)}{G G2:World->Prop}{o:Oper}{X:Type}{V:X->Value}{G':X->World->Prop}(h:∀w,G w->G2 w)(hl:aW P S G2 o X V G'):aW P S G o X V G':=⟨λ w hw=>hl.run w (h w hw)⟩
end
end Go.Ct
namespace Go.Proofs.YtdeecdfockjoiaaGreatDoor
open Go.Proofs.Tryz
open Go Go.RowKit Go.Ct
section
section
variable{D:List Nat}{A B:Fr}{a:AS}{b:Nat}{w:World}{f:FuncId}{cap:yK}{t:oB}
variable{Kt:Tr}{s:Mm}{b5:Nat}{v:Int}{nd:Nd}
theorem V2(hK:Yq b Kt s f cap B)(hns:Ns Kt s)(o:Bool):kF b 172 [pt b5] [.bool o] (bx b5 [fn f cap]::B) s (Kt):=by
 intro a D A w em ok hm0 hA hB hw0;subst em;refine K2l ?_;intro hm;have hK2:=hK.more (B2:=(bx b5 [fn f cap]::B)) (λ x hx=>by simp[hx]);refine enter func172 ntmps172 rfl rfl hw0 ?_;simp only[cN]
 refine J0 ?_;refine aJ (λ x3=>?_);refine Kb4 ?_;refine aA (fG b5 [fn f cap] 0 hB rfl) rfl ?_;refine aI (Kc hK2.1 (hK2.2 a.mm (Mm.Le.refl _) hns) ok hm0 hA hB) (λ x5 h5=>?_);refine aM (cC λ _=>aC rf bI rf (aY _) cY rf dM) (λ _=>?_);refine aE ?_;refine bF results172 (λ w hw=>?_);exact⟨x5,rfl,h5,hw.rN⟩
theorem sj{r:Int}{b4:Nat}(hK:Yq b Kt s f cap B)(hv:v<=s.nodes.length)(he:(aD s.nodes v).exp=nd.exp)(hst:(aD s.nodes v).status=nd.status)(hd:nd.status<=9223372036854775807):kF b 171 [pt b4,pt b5] [.int .i64 r] (bx b4 (nd.cells:List Value)::bx b5 [fn f cap]::B) s (.node v λ n2=>.node v λ n3=>.sJ n3.status 0 (if r=n2.exp then 1 else 2) λ _=>Kt):=by
 intro a D A w em ok hm0 hA hB hw0;subst em;refine K2l ?_;intro hm;refine enter func171 ntmps171 rfl rfl hw0 ?_;simp only[cN];refine K2f ?_;intro x4;refine aE ?_;refine Ka9 ?_;refine aQ ?_;refine aA (fG b4 (nd.cells:List Value) 11 hB rfl) rfl ?_;refine E2 ?_;refine aX (λ c9=>?_) (λ c9=>?_);·refine eC ?_;refine J1 ?_;refine J0 ?_;refine aQ ?_;refine aA (fG b4 (nd.cells:List Value) 13 hB rfl) rfl ?_;refine aB ?_;refine K2m ?_;refine aH (cV (hc:=λ w1 hw=>sY _ _ _ _ _ w1)) (λ x14=>?_);refine aM (cC λ _=>aC rf bI rf (aY _) cY rf dM) (λ _=>?_);refine aE ?_;refine bF results171 (λ w hw=>?_);refine⟨(uK nd.status 0 1 _ _,[],a),rfl,⟨⟨hv,hv,?_⟩,ok,AS.fF.refl a⟩,hw.rI⟩;dsimp only;rw[he,hst,if_pos (by omega)];exact⟨rfl,hd,by have:=ok.mo.two;omega,_,_,rfl,by kernel_rfl,λ o s1 l hns=>(V2 (b5:=b5) (hK.le l) hns o).mr (λ y hy=>List.mem_cons_of_mem _ hy)⟩
 ·refine Kc4 ?_;refine aQ ?_;refine aA (fG b4 (nd.cells:List Value) 13 hB rfl) rfl ?_;refine aB ?_;refine K2m ?_;refine aH (cV (hc:=λ w1 hw=>sY _ _ _ _ _ w1)) (λ x14=>?_);refine aM (cC λ _=>aC rf bI rf (aY _) cY rf dM) (λ _=>?_);refine aE ?_;refine bF results171 (λ w hw=>?_);refine⟨(uK nd.status 0 2 _ _,[],a),rfl,⟨⟨hv,hv,?_⟩,ok,AS.fF.refl a⟩,hw.rI⟩;dsimp only;rw[he,hst,if_neg (by omega)];exact⟨rfl,hd,by have:=ok.mo.two;omega,_,_,rfl,by kernel_rfl,λ o s1 l hns=>(V2 (b5:=b5) (hK.le l) hns o).mr (λ y hy=>List.mem_cons_of_mem _ hy)⟩
theorem Zy(ht:t.root<=9223372036854775807)(hK:Yq b Kt a.mm f cap B)(hv:v<=a.mm.nodes.length)(ho:(aD a.mm.nodes v).old=nd.old)(he:(aD a.mm.nodes v).exp=nd.exp)(hst:(aD a.mm.nodes v).status=nd.status)(ok:a.Ok)(hm:a.mm.Small)(hA:∀f∈dD a.L,f∈A)(hB:∀x∈B,x∈A)(hs:SF w D [(b,dV a),(a.u,a.po)] A [] (iS a) w) :
  Calls prog 135 #[.agg ⟨gI b t⟩,nd.v,fn f cap] w (jP b (λ c' s' B'=>eH b (Fi t v Kt) a.mm c' s' B') a B D w):=by
 have hol:nd.old<=a.mm.nodes.length:=by rw[<- ho];exact(ok.mo.at v).old
 have hd:nd.status<=9223372036854775807:=by rw[<- hst];exact nI hm (ok.mo.at v).status
 have hT:∀x4 x5:Nat,tJ b (λ r=>.node v λ n2=>.node v λ n3=>.sJ n3.status 0 (if r=n2.exp then 1 else 2) λ _=>Kt) a.mm 171 ⟨[],[.pointer (some ⟨x4,0,none⟩),.pointer (some ⟨x5,0,none⟩)]⟩ (bx x5 [fn f cap]::bx x4 (nd.cells:List Value)::B):=λ x4 x5=>⟨by kernel_rfl,λ r s1 l hr _=>(sj (b4:=x4) (b5:=x5) (nd:=nd) (hK.le l) E0f (by rw[l.nd hv];exact he) (by rw[l.nd hv];exact hst) hd).mr (λ y hy=>by simp only[List.mem_cons] at hy ⊢;rcases hy with h|h|h<;>simp[h])⟩
 refine enter func135 ntmps135 rfl rfl hs ?_;simp only[cN];simp only[Nd.v,Nd.cells];refine K3f ?_;intro x3;refine bC (λ x4=>?_);refine K3k ?_;intro x5 x6;refine oT ?_;refine J3 ?_;refine K2m ?_;(refine aH (aW.pre (λ w h=>(show SF _ _ [_,_,(b,dV a),(a.u,a.po)] _ [(bx x5 [fn f cap]:Option Addr×List Value),bx x4 (nd.cells:List Value)] _ w from(h.bS (.tail (.tail .head))).bS (.tail .head))) (cM (V:=λ y:Cd×Fr×AS=>.agg ⟨y.1.cells⟩) (hs:=[(b,dV a),(a.u,a.po)]) (os:=iS a) (hs':=λ y=>[(b,dV y.2.2),(y.2.2.u,y.2.2.po)]) (os':=λ y=>iS y.2.2) (Fc:=λ y=>y.2.1) (A0:=bx x5 [fn f cap]::bx x4 (nd.cells:List Value)::A) (hA:=bV.Tq) (hc:=λ w1 hw=>qY ht (hT x4 x5) hol ok hm (λ f hf=>List.mem_cons_of_mem _ (List.mem_cons_of_mem _ (hA f hf))) (Hb hB) hw))) (λ x11=>?_);try (refine dQ (λ h11=>?_)));refine aM (cC λ _=>aC rf bI rf (aY _) cY rf dM) (λ _=>?_);refine aE ?_;refine bF results135 (λ w hw=>?_);refine⟨(x11.1,x11.2.1++[bx x5 [fn f cap],bx x4 (nd.cells:List Value)],x11.2.2),rfl,⟨⟨hv,?_⟩,h11.2.1,h11.2.2.more (λ f hf=>List.mem_append_left _ hf)⟩,hw.rI⟩;dsimp only;rw[ho,List.append_assoc];exact h11.1
end
end
end Go.Proofs.YtdeecdfockjoiaaGreatDoor
