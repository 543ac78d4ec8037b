/- Merged. -/
import Derived.Test.YtdeecdfockjoiaaGreatDoorGGc4
import Derived.Test.YtdeecdfockjoiaaGreatDoorGTt1
set_option linter.unusedSimpArgs false
set_option linter.unusedVariables false
namespace Go.Proofs.YtdeecdfockjoiaaGreatDoor
open Go.Proofs.Tryz
open Go Go.RowKit Go.Ct
section
section
variable{D:List Nat}{A B:Fr}{a:AS}{b:Nat}{w:World}{f:FuncId}{cap:yK}{t:oB}
variable{v x:Int}{s:Mm}{b1 b2 b3 b0:Nat}{nd:Nd}
theorem ke{K:Int->Tr}(ht:t.root<=9223372036854775807)(hK:tJ b K s f cap B)(hv:v<=s.nodes.length):kF b 137 [pt b1,pt b2,pt b3] [.int .i64 x] (bx b1 (gI b t)::bx b2 [iv v]::bx b3 [fn f cap]::B) s (tR t v x K):=by
 intro a D A w em ok hm0 hA hB hw0;subst em;refine K2l ?_;intro hm;have hK2:=hK.more (B2:=(bx b1 (gI b t)::bx b2 [iv v]::bx b3 [fn f cap]::B)) (λ x hx=>by simp[hx]);refine enter func137 ntmps137 rfl rfl hw0 ?_;simp only[cN]
 refine J0 ?_;refine aJ (λ x5=>?_);refine Kb4 ?_;refine K1d ?_;refine aI (gK (λ w1 hw=>qX ht hK2 hv ok hm hA hB hw)) (λ x10 h10=>?_);refine aM (cC λ _=>aC rf bI rf (aY _) cY rf dM) (λ _=>?_);refine aE ?_;refine bF results137 (λ w hw=>?_);exact⟨x10,rfl,h10,hw.rN⟩
theorem dr{K:Int->Tr}(ht:t.root<=9223372036854775807)(hK:tJ b K s f cap B)(hv:v<=s.nodes.length)(hst:(aD s.nodes v).status=nd.status):kF b 136 [pt b0,pt b1,pt b2,pt b3] [] (bx b0 (nd.cells:List Value)::bx b1 (gI b t)::bx b2 [iv v]::bx b3 [fn f cap]::B) s (.node v λ n=>.load n.status λ s=>tR t v s K):=by
 intro a D A w em ok hm0 hA hB hw0;subst em;refine K2l ?_;intro hm;have hd:nd.status<=9223372036854775807:=by rw[<- hst];exact nI hm (ok.mo.at v).status
 refine enter func136 ntmps136 rfl rfl hw0 ?_;simp only[cN];refine K2f ?_;intro x4;refine Kb4 ?_;refine K4d ?_;refine aH (cV (hc:=λ w1 hw=>nE _ _ _ w1)) (λ x8=>?_);refine aM (cC λ _=>aC rf bI rf (aY _) cY rf dM) (λ _=>?_);refine aE ?_;refine bF results136 (λ w hw=>?_);refine⟨(nF nd.status _ _,[],a),rfl,⟨⟨hv,?_⟩,ok,AS.fF.refl a⟩,hw.rI⟩;dsimp only;rw[hst];exact⟨rfl,hd,_,_,rfl,by kernel_rfl,λ x s1 l hx _=>(ke (b1:=b1) (b2:=b2) (b3:=b3) ht (hK.le l) E0f).mr (λ y hy=>List.mem_cons_of_mem _ hy)⟩
theorem ld{K:Int->Tr}(ht:t.root<=9223372036854775807)(hK:tJ b K s f cap B)(hv:v<=s.nodes.length)(ho:(aD s.nodes v).old=nd.old)(he:(aD s.nodes v).exp=nd.exp)(hst:(aD s.nodes v).status=nd.status):kF b 133 [pt b1,pt b2,pt b3,pt b0] [.int .i64 x] (bx b1 (gI b t)::bx b2 [iv v]::bx b3 [fn f cap]::bx b0 (nd.cells:List Value)::B) s (if x=0 then Fi t v (.node v λ n=>.load n.status λ s=>tR t v s K) else tR t v x K):=by
 intro a D A w em ok hm0 hA hB hw0;subst em;refine K2l ?_;intro hm;have hK2:=hK.more (B2:=(bx b1 (gI b t)::bx b2 [iv v]::bx b3 [fn f cap]::bx b0 (nd.cells:List Value)::B)) (λ x hx=>by simp[hx])
 have hT:Yq b (.node v λ n=>.load n.status λ s=>tR t v s K) a.mm 136 ⟨[],[.pointer (some ⟨b0,0,none⟩),.pointer (some ⟨b1,0,none⟩),.pointer (some ⟨b2,0,none⟩),.pointer (some ⟨b3,0,none⟩)]⟩ (bx b1 (gI b t)::bx b2 [iv v]::bx b3 [fn f cap]::bx b0 (nd.cells:List Value)::B):=⟨by kernel_rfl,λ s1 l _=>(dr (b0:=b0) (b1:=b1) (b2:=b2) (b3:=b3) (nd:=nd) ht (hK.le l) E0f (by rw[l.nd hv];exact hst)).mr (λ y hy=>by simp only[List.mem_cons] at hy ⊢;rcases hy with h|h|h|h|h<;>simp[h])⟩
 refine enter func133 ntmps133 rfl rfl hw0 ?_;simp only[cN];refine J0 ?_;refine aJ (λ x6=>?_);refine Ke3 ?_;refine Kc0 ?_;refine aX (λ c8=>?_) (λ c8=>?_);·refine J0 ?_;refine K1d ?_;refine aI (gK (λ w1 hw=>qX ht hK2 hv ok hm hA hB hw)) (λ x13 h13=>?_);refine aM (cC λ _=>aC rf bI rf (aY _) cY rf dM) (λ _=>?_);refine aE ?_;refine bF results133 (λ w hw=>?_);refine⟨x13,rfl,⟨?_,h13.2⟩,hw.rN⟩;rw[if_neg (by omega)];exact h13.1
 ·refine Kc4 ?_;refine aA (M2 b1 (gI b t) 0 3 hB rfl rfl) rfl ?_;refine aA (M2 b0 (nd.cells:List Value) 0 14 hB rfl rfl) rfl ?_;refine K2m ?_;refine aI (gK (λ w1 hw=>Zy (nd:=nd) ht hT hv ho he hst ok hm hA hB hw)) (λ x17 h17=>?_);refine aM (cC λ _=>aC rf bI rf (aY _) cY rf dM) (λ _=>?_);refine aE ?_;refine bF results133 (λ w hw=>?_);refine⟨x17,rfl,⟨?_,h17.2⟩,hw.rN⟩;rw[if_pos (by omega)];exact h17.1
theorem fz{K:Int->Tr}(ht:t.root<=9223372036854775807)(hK:tJ b K s f cap B)(hv:v<=s.nodes.length)(hns:(aD s.nodes v).kind=2->Ns (K v) s):kF b 132 [pt b1,pt b3] [.int .i64 v] (bx b1 (gI b t)::bx b3 [fn f cap]::B) s (.node v λ n=>if n.kind=2 then K v else .node v λ n=>.load n.status λ s=>if s=0 then Fi t v (.node v λ n=>.load n.status λ s=>tR t v s K) else tR t v s K):=by
 intro a D A w em ok hm0 hA hB hw0;subst em;refine K2l ?_;intro hm;have hK2:=hK.more (B2:=(bx b1 (gI b t)::bx b3 [fn f cap]::B)) (λ x hx=>by simp[hx]);have nv:=pP ok v;refine enter func132 ntmps132 rfl rfl hw0 ?_;simp only[cN]
 refine K3f ?_;intro x3;refine K3s ?_;intro x4 x9 h9 x5;refine aX (λ c12=>?_) (λ c12=>?_);·refine J0 ?_;refine aA (fG b3 [fn f cap] 0 hB rfl) rfl ?_;refine bO ?_;refine aI (Kc hK2.1 (hK2.2 v a.mm (Mm.Le.refl _) hv (hns (by rw[cE];assumption))) ok hm0 hA hB) (λ x15 h15=>?_);refine aM (cC λ _=>aC rf bI rf (aY _) cY rf dM) (λ _=>?_);refine aE ?_;refine bF results132 (λ w hw=>?_);refine⟨x15,rfl,⟨⟨hv,?_⟩,h15.2⟩,hw.rN⟩;rw[cE];dsimp only;rw[if_pos (by assumption)];exact h15.1
 ·refine bG ?_;refine jN ?_;refine K2m ?_;refine aH (cV (hc:=λ w1 hw=>nE _ _ _ w1)) (λ x19=>?_);refine aM (cC λ _=>aC rf bI rf (aY _) cY rf dM) (λ _=>?_);refine aE ?_;refine bF results132 (λ w hw=>?_);refine⟨(nF (aK (aV a.L) v).nd.status _ _,[bx x5 (((aK (aV a.L) v).at_ x9.1 x9.2).nd.cells:List Value),bx x3 [iv v]],a),rfl,⟨⟨hv,?_⟩,ok,(AS.fF.refl a).more (λ _ h=>(List.not_mem_nil h).elim)⟩,?_⟩
  ·rw[cE];dsimp only;rw[if_neg (by assumption)];refine⟨hv,?_⟩;rw[cE];refine⟨rfl,nI hm nv.status,_,_,rfl,by kernel_rfl,λ x s1 l hx _=>?_⟩;have hlen:a.mm.nodes.length<=s1.nodes.length:=l.len
   exact(ld (b0:=x5) (b1:=b1) (b2:=x3) (b3:=b3) (nd:=((aK (aV a.L) v).at_ x9.1 x9.2).nd) ht (hK.le l) (by omega) (by rw[l.nd hv,cE];rfl) (by rw[l.nd hv,cE];rfl) (by rw[l.nd hv,cE];rfl)).mr (λ y hy=>by
   simp only[List.mem_cons,List.append_eq,List.nil_append,List.mem_append,List.not_mem_nil,or_false] at hy ⊢;rcases hy with h|h|h|h|h<;>simp[h])
  ·exact((hw.bS (.tail (.tail .head))).bS .head).rI
theorem Ml{K:Int->Tr}(ht:t.root<=9223372036854775807)(hK:tJ b K a.mm f cap B)(ok:a.Ok)(hm:a.mm.Small)(hA:∀f∈dD a.L,f∈A)(hB:∀x∈B,x∈A)(hs:SF w D [(b,dV a),(a.u,a.po)] A [] (iS a) w) :
  Calls prog 96 #[.agg ⟨gI b t⟩,fn f cap] w (jP b (λ c' s' B'=>eH b (B7 t K) a.mm c' s' B') a B D w):=by refine enter func96 ntmps96 rfl rfl hs ?_;simp only[cN];refine K1u ?_;intro x2 x3 x4 x9;refine aM (cC λ _=>aC rf bI rf (aY _) cY rf dM) (λ _=>?_);refine aE ?_;refine bF results96 (λ w hw=>?_);refine⟨(nF t.root _ _,[bx x2 (gI b t),bx x3 [fn f cap]],a),rfl,⟨⟨rfl,ht,_,_,rfl,by kernel_rfl,λ v s1 l hv hns=>fz (b1:=x2) (b3:=x3) ht (hK.le l) hv (λ k=>by have h:Ns (if(aD s1.nodes v).kind=2 then K v else _) s1:=hns;rw[if_pos k] at h;exact h)⟩,ok,(AS.fF.refl a).more (λ _ h=>(List.not_mem_nil h).elim)⟩,?_⟩;exact((hw.bS (.tail .head)).bS (.tail .head)).rI
end
end
section
theorem iu{v:Nv}{k b:Int}(h:iU v k=some b):v.kind=3:=by unfold iU at h;have:=mv (show(V5 v.nd v.xs v.ys v.bm.toNat k).isSome=true by rw[h];rfl);exact this.1.1
structure Gg(n:Nat)(o:Option (Nat×List Int)):Prop where
 out:∀q,o=some q->q.1<18446744073709551616/\q.2.length<=64/\∀r∈q.2,r<=n
variable{xs:List Int}{p:Nat}{r v:Int}
theorem Lv{b:Nat}(h:BV b xs):xs.length<=64:=by rw[h.len];exact Oa b 64
theorem qj(h:v∈Ds xs p r):v∈xs∨v=r:=by
 unfold Ds at h;rcases List.mem_append.1 h with h|h;·exact .inl (List.mem_of_mem_take h)
 ·rcases List.mem_cons.1 h with h|h;·exact .inr h
  ·exact .inl (List.mem_of_mem_drop h)
theorem we(h:v∈tW xs p r):v∈xs∨v=r:=by
 unfold tW at h;rcases List.mem_append.1 h with h|h;·exact .inl (List.mem_of_mem_take h)
 ·rcases List.mem_cons.1 h with h|h;·exact .inr h
  ·exact .inl (List.mem_of_mem_drop h)
theorem rz(h:v∈D3 xs p):v∈xs:=by
 unfold D3 at h;rcases List.mem_append.1 h with h|h;·exact List.mem_of_mem_take h
 ·exact List.mem_of_mem_drop h
section
variable{n:Nd}{xs:List Int}{ys:List Pr}{b m:Nat}
theorem uw(hb:n.bm=(b:Int))(hb2:b<18446744073709551616)(hx:∀r∈xs,r<=m){r:Int}(hr:r<=m)(i:Int):Gg m (Cy n xs ys b i r):=⟨λ q hq=>by
 unfold Cy at hq;split at hq;·rename_i h;cases hq;obtain⟨h1,h2,h3⟩:=h;have hv:=h1.bv hb hb2;obtain⟨e1,e2,e3,e4⟩:=nR h3;have:=(eb hv (i:=i.toNat) (by omega) e3 h2).1;rw[<- e4] at this;exact⟨this.lt,Lv this,λ v hv=>(qj hv).elim (hx v) (λ e=>e▸hr)⟩
 ·cases hq⟩
theorem r9(hb:n.bm=(b:Int))(hb2:b<18446744073709551616)(hx:∀r∈xs,r<=m){r:Int}(hr:r<=m)(i:Int):Gg m (O0 n xs ys b i r):=⟨λ q hq=>by
 unfold O0 at hq;split at hq
 ·rename_i h;cases hq;obtain⟨h1,h0,h2,h3⟩:=h;have hv:=h1.bv hb hb2;have e:i=((i.toNat:Nat):Int):=by omega
  have hk:i.toNat<64:=by omega
  rw[e] at h3 ⊢;rw[rX b hk] at h3;have:=(Ob hv (i:=i.toNat) hk h3 h2).1;rw[wJ b hk,oL b hk];exact⟨this.lt,Lv this,λ v hv=>(we hv).elim (hx v) (λ e=>e▸hr)⟩
 ·cases hq⟩
theorem tf(hb:n.bm=(b:Int))(hb2:b<18446744073709551616)(hx:∀r∈xs,r<=m)(i:Int):Gg m (R4 n xs ys b i):=⟨λ q hq=>by
 unfold R4 at hq;split at hq
 ·rename_i h;cases hq;obtain⟨h1,h3⟩:=h;have hv:=h1.bv hb hb2;obtain⟨e1,e2,e3,e4⟩:=nR h3;have hk:i.toNat<64:=by omega
  have:=(gq hv (i:=i.toNat) hk e3).1;have e:i=((i.toNat:Nat):Int):=by omega
  rw[e,A8 b hk,oL b hk];exact⟨this.lt,Lv this,λ v hv=>hx v (rz hv)⟩
 ·cases hq⟩
end
theorem Gg.nvB{m c:Nat}{o:Option (Nat×List Int)}(h:Gg m o)(x:Option Addr×Nat):oP m c {(lI o x).c (gY o) [] with main:=0,prev:=0,status:=0}:=by
 rw[N3];cases o with
 | none=>exact⟨fN _,fN _,fN _,(λ r hr=>nomatch hr),fN _,fN _,fN _,⟨0,rfl,by decide⟩,⟨0,rfl,by decide⟩⟩
 | some q=>have h1:=h.out q rfl;exact⟨fN _,fN _,fN _,h1.2.2,fN _,fN _,fN _,⟨q.1,rfl,h1.1⟩,⟨0,rfl,by decide⟩⟩
theorem tB(o:Option (Nat×List Int))(x:Option Addr×Nat):(lI o x).brN=(gY o).length:=by cases o<;>rfl
theorem tP(o:Option (Nat×List Int))(x:Option Addr×Nat):(lI o x).prN=([]:List Pr).length:=by cases o<;>rfl
section
variable{v:dW}{n c:Nat}{w:World}
theorem eE(h:oP n c v.c):v.nd.bm=((v.c.bm.toNat:Nat):Int)/\v.c.bm.toNat<18446744073709551616:=by obtain⟨b,h1,h2⟩:=h.bm;have h3:v.nd.bm=(b:Int):=h1;have h4:v.c.bm=(b:Int):=h1;rw[h3,h4];exact⟨by simp,by simpa using h2⟩
theorem D5(h:oP n c v.c)(i:Int):(iU v.c i).getD 0<=n:=by
 have h1:=eE h;have e:=aDj (xs:=v.xs) (ys:=v.ys) h1.1 i;rw[show iU v.c i=iU (v.nd.c v.xs v.ys) i from rfl,<- e];unfold V5;split
 ·exact My h.br _
 ·exact fN _
abbrev nQ(v:dW)(i r:Int):Option (Nat×List Int):=Cy v.nd v.xs v.ys v.c.bm.toNat i r
abbrev W1(v:dW)(i r:Int):Option (Nat×List Int):=O0 v.nd v.xs v.ys v.c.bm.toNat i r
abbrev Ce(v:dW)(i:Int):Option (Nat×List Int):=R4 v.nd v.xs v.ys v.c.bm.toNat i
theorem ct(h:oP n c v.c)(i r:Int)(x:Option Addr×Nat):Cj v.c i r=(lI (nQ v i r) x).c (gY (nQ v i r)) []:=by rw[N3];exact(aDo (eE h).1 i r).symm
theorem aBZ(h:oP n c v.c)(i r:Int)(x:Option Addr×Nat):az v.c i r=(lI (W1 v i r) x).c (gY (W1 v i r)) []:=by rw[N3];exact(aDp (eE h).1 i r).symm
theorem o9(h:oP n c v.c)(i:Int)(x:Option Addr×Nat):uL v.c i=(lI (Ce v i) x).c (gY (Ce v i)) []:=by rw[N3];exact(aDy (eE h).1 i).symm
theorem Ko(h:oP n c v.c){r:Int}(hr:r<=n)(i:Int):Gg n (nQ v i r):=uw (eE h).1 (eE h).2 h.br hr i
theorem xo(h:oP n c v.c){r:Int}(hr:r<=n)(i:Int):Gg n (W1 v i r):=r9 (eE h).1 (eE h).2 h.br hr i
theorem V8(h:oP n c v.c)(i:Int):Gg n (Ce v i):=tf (eE h).1 (eE h).2 h.br i
end
theorem Z4{n c:Nat}{g:Int}:oP n c {(({Nd.zero with kind:=2,gen:=g}:Nd).c [] []) with main:=0,prev:=0,status:=0}:=⟨fN _,fN _,fN _,(λ r hr=>nomatch hr),fN _,fN _,fN _,⟨0,rfl,by decide⟩,⟨0,rfl,by decide⟩⟩
end
section
section
variable{D:List Nat}{A B:Fr}{a:AS}{b:Nat}{w:World}{f:FuncId}{cap:yK}{t:oB}
theorem nw{i:Int}(hi:i<=a.mm.nodes.length)(ok:a.Ok)(hm:a.mm.Small)(hA:∀f∈dD a.L,f∈A)(hs:SF w D [(b,dV a),(a.u,a.po)] A [] (iS a) w) :
  Calls prog 102 #[.agg ⟨gI b t⟩,.int .i64 i,fn f cap] w (jP b (λ _ _ _=>True) a B D w):=by
 refine enter func102 ntmps102 rfl rfl hs ?_;simp only[cN]
 refine K3f ?_;intro x3;refine bC (λ x4=>?_);refine K3k ?_;intro x5 x6;refine jN ?_;refine bO ?_;refine aI (oI i ok hm hA hi) (λ x10 h10=>?_);refine nV ?_;refine K2m ?_;refine aH (cV (hc:=λ w1 hw=>nE _ _ _ w1)) (λ x13=>?_);refine aM (cC λ _=>aC rf bI rf (aY _) cY rf dM) (λ _=>?_);refine aE ?_;refine bF results102 (λ w hw=>?_);exact⟨(nF (aK (aV a.L) i).nd.main _ _,[bx x3 (gI b t),bx x4 [iv i],bx x5 [fn f cap]],a),rfl,⟨trivial,ok,(AS.fF.refl a).more (λ _ h=>(List.not_mem_nil h).elim)⟩,(((hw.bS (.tail .head)).bS (.tail .head)).bS (.tail .head)).rI⟩
variable{bf h:Nat}{key:ByteArray}
def Sn(b bf h:Nat)(t:oB)(key:ByteArray)(n:Nat):Prop:=∀(a:AS) (D:List Nat) (A B:Fr) (i:Int) (lv:Nat) (w:World),lv+n<=4294967296->bx bf (Jn b t key h)∈B->i<=a.mm.nodes.length->a.Ok->a.mm.Small->(∀f∈dD a.L,f∈A)->(∀x∈B,x∈A)->SF w D [(b,dV a),(a.u,a.po)] A [] (iS a) w ->
  Calls prog 98 #[pt bf,.int .i64 i,.int .i64 ((lv:Nat):Int)] w (jP b (λ c' s' B'=>eH b (Ej t h key .done n i ((lv:Nat):Int)) a.mm c' s' B') a B D w)
theorem wx:Sn b bf h t key 0:=by intro a D A B i lv w hl hbf hi ok hm hA hB hs;refine enter func98 ntmps98 rfl rfl hs ?_;simp only[cN];refine K3f ?_;intro x3;refine K3k ?_;intro x5 x6;refine oT ?_;refine P3 ?_;refine aA (M2 bf (Jn b t key h) 0 3 hB rfl rfl (hm:=hbf)) rfl ?_;refine aB ?_;refine K2m ?_;(refine aH (aW.pre (λ w h=>(show SF _ _ [_,(b,dV a),(a.u,a.po)] _ ([bx x3 [pt bf],bx x5 [iv ((lv:Nat):Int)]]:Fr) _ w from(h.bS (.tail .head)).bS (.tail .head))) (gK (A0:=[bx x3 [pt bf],bx x5 [iv ((lv:Nat):Int)]]++A) (B:=[bx x3 [pt bf],bx x5 [iv ((lv:Nat):Int)]]++B) (hA:=bV.vX) (λ w1 hw=>nw (f:=138) (cap:=⟨[],[pt x3,pt x5]⟩) hi ok hm (λ f hf=>List.mem_append_right _ (hA f hf)) hw))) (λ x13=>?_);try (refine dQ (λ h13=>?_)));refine aM (cC λ _=>aC rf bI rf (aY _) cY rf dM) (λ _=>?_);refine aE ?_;refine bF results98 (λ w hw=>?_);exact⟨(x13.1,x13.2.1++[bx x3 [pt bf],bx x5 [iv ((lv:Nat):Int)]],x13.2.2),rfl,⟨trivial,h13.2.1,h13.2.2.more λ f hf=>List.mem_append_left _ hf⟩,hw.rI⟩
noncomputable def N1 (t:oB) (h:Nat) (key:ByteArray) (n:Nat) (level:Int) (mr:Int):Tr:=.node mr λ m =>
  if m.kind=5 then(if m.key=key then .done (eG true m.val) else .done (eG false 0))
  else if m.kind=6 then .done (eG (cS m.ys key).isSome ((cS m.ys key).getD 0))
  else match iU m (oU h level) with
   | none=>.done (eG false 0)
   | some b=>.node b λ s=>if s.kind=4 then(if s.key=key then .done (eG true s.val) else .done (eG false 0)) else Ej t h key .done n b (level+1)
theorem jY{o:Option Int}(h:o.isSome=true):o=some (o.getD 0):=by cases o with|none=>cases h|some a=>rfl
theorem yl{s:Mm}{c:Cd}{B:Fr}{p:Prop} [Decidable p] {x y:Rs}(e:c=fE (if p then x else y)):eH b (if p then .done x else .done y) s c s B:=by
 split;·rename_i hp;rw[if_pos hp] at e;exact⟨rfl,e⟩
 ·rename_i hp;rw[if_neg hp] at e;exact⟨rfl,e⟩
section
variable{s:Mm}{m l:Int}{n:Nat}{u:Nv}
theorem aDN(hm:m<=s.nodes.length)(e:aD s.nodes m=u)(k:u.kind=5):eH b (N1 t h key n l m) s (fE (if u.key=key then eG true u.val else eG false 0)) s B:=by subst e;refine⟨hm,?_⟩;show eH b (if(aD s.nodes m).kind=5 then _ else _) s _ s B;rw[if_pos k];exact yl rfl
theorem aBS(hm:m<=s.nodes.length)(e:aD s.nodes m=u)(k:u.kind=6):eH b (N1 t h key n l m) s (fE (eG (cS u.ys key).isSome ((cS u.ys key).getD 0))) s B:=by subst e;refine⟨hm,?_⟩;show eH b (if(aD s.nodes m).kind=5 then _ else if(aD s.nodes m).kind=6 then _ else _) s _ s B;rw[if_neg (by omega),if_pos k];exact⟨rfl,rfl⟩
theorem aB4(hm:m<=s.nodes.length)(e:aD s.nodes m=u)(k5:u.kind≠5)(k6:u.kind≠6)(hk:iU u (oU h l)=none):eH b (N1 t h key n l m) s (fE (eG false 0)) s B:=by subst e;refine⟨hm,?_⟩;show eH b (if(aD s.nodes m).kind=5 then _ else if(aD s.nodes m).kind=6 then _ else _) s _ s B;rw[if_neg k5,if_neg k6,hk];exact⟨rfl,rfl⟩
theorem aC0(hm:m<=s.nodes.length)(e:aD s.nodes m=u)(k:u.kind=6)(hf:(cS u.ys key).isSome=true):eH b (N1 t h key n l m) s (fE (eG true ((cS u.ys key).getD 0))) s B:=by have:=aBS (b:=b) (B:=B) (t:=t) (h:=h) (key:=key) (l:=l) (n:=n) hm e k;rw[hf] at this;exact this
theorem aCe(hm:m<=s.nodes.length)(e:aD s.nodes m=u)(k:u.kind=6)(hf:cS u.ys key=none):eH b (N1 t h key n l m) s (fE (eG false 0)) s B:=by have:=aBS (b:=b) (B:=B) (t:=t) (h:=h) (key:=key) (l:=l) (n:=n) hm e k;rw[hf] at this;exact this
theorem aCu(hm:m<=s.nodes.length)(e:aD s.nodes m=u)(k3:¬u.kind=3)(k5:¬u.kind=5)(k6:¬u.kind=6):eH b (N1 t h key n l m) s (fE (eG false 0)) s B :=aB4 hm e k5 k6 (by cases hk:iU u (oU h l) with|none=>rfl|some q=>exact absurd (iu hk) k3)
theorem aCY(hm:m<=s.nodes.length)(e:aD s.nodes m=u)(k3:u.kind=3){c:Cd}{s2:Mm}{q:Int}(hk:iU u (oU h l)=some q)(hq:q<=s.nodes.length)(hc:eH b (if(aD s.nodes q).kind=4 then(if(aD s.nodes q).key=key then .done (eG true (aD s.nodes q).val) else .done (eG false 0)) else Ej t h key .done n q (l+1)) s c s2 B):eH b (N1 t h key n l m) s c s2 B:=by subst e;refine⟨hm,?_⟩;show eH b (if(aD s.nodes m).kind=5 then _ else if(aD s.nodes m).kind=6 then _ else _) s _ s2 B;rw[if_neg (by omega),if_neg (by omega),hk];exact⟨hq,hc⟩
end
set_option maxHeartbeats 1000000 in
theorem q9{n lv:Nat}{m:Int}{s:Mm}{xf xl:Nat}(ih:Sn b bf h t key n)(hl:lv+1+n<=4294967296)(hh:h<18446744073709551616)(hbf:bx bf (Jn b t key h)∈B)(hmm:m<=s.nodes.length):kF b 138 [pt xf,pt xl] [.int .i64 m] (bx xf [pt bf]::bx xl [iv ((lv:Nat):Int)]::B) s (N1 t h key n ((lv:Nat):Int) m):=by
 intro a D A w em ok hm0 hA hB hw0;subst em;refine K2l ?_;intro hm;have hfm:bx bf (Jn b t key h)∈bx xf [pt bf]::bx xl [iv ((lv:Nat):Int)]::B:=List.mem_cons_of_mem _ (List.mem_cons_of_mem _ hbf);have nm:=pP ok m;refine enter func138 ntmps138 rfl rfl hw0 ?_;simp only[cN]
 refine K2f ?_;intro x4;refine Kb4 ?_;refine K3g ?_;refine P3 ?_;refine aQ ?_;refine aA (fG bf (Jn b t key h) 0 hB rfl (hm:=hfm)) rfl ?_;refine aB ?_;refine aI (oI m ok hm hA hmm) (λ x17 h17=>?_);refine aJ (λ x5=>?_);refine J5 ?_;refine Ga ?_;refine Kb6 ?_;refine kT ?_;refine aX (λ c20=>?_) (λ c20=>?_)
 ·try (first|contradiction|(exfalso;omega))
  refine aL ?_;refine eO [(0,[]),(1,[]),(2,[]),(3,[]),(4,[]),(5,[]),(6,[0]),(7,[]),(8,[]),(9,[]),(10,[]),(11,[]),(12,[])] ?_;refine bH ?_;refine aS (i:=1) (hq:=(fG xf [pt bf] 0 hB rfl)) (h:=?_);refine J4 ?_;refine aS (i:=4) (hq:=(fG bf (Jn b t key h) 4 hB rfl (hm:=hfm))) (h:=?_);refine aS (i:=5) (hq:=(fG xl [iv ((lv:Nat):Int)] 0 hB rfl)) (h:=?_);refine bR (i:=6) (hq:=(cV (hc:=λ w1 hw=>tF hh ((lv:Nat):Int) w1))) (h:=λ x29=>?_);refine bR (i:=7) (hq:=(cV (hc:=λ w1 hw=>Mw (v:=(aK (aV a.L) m).at_ x17.1 x17.2) nm (oU h ((lv:Nat):Int)) ((dW.rH (iW ok.fit.all m) _ _).xZ (hw.cl (.own (.tail .head))) (hw.cl (.own .head)))))) (h:=λ x30=>?_);refine Kc3 ?_;refine Vz ?_;refine Kb9 ?_;refine aX (λ c34=>?_) (λ c34=>?_)
  ·try (first|contradiction|(exfalso;omega))
   refine J0 ?_;refine aH (cV (hc:=λ w1 hw=>wS w1)) (λ x35=>?_);refine aM (cC λ _=>aC rf bI rf (aY _) cY rf dM) (λ _=>?_);refine K3o ?_;intro w hw;exact⟨(fE (eG false 0),[],a),rfl,⟨aB4 hmm (cE m) (by have e:(aK (aV a.L) m).c.kind=3:=c20;show(aK (aV a.L) m).c.kind≠5;omega) (by have e:(aK (aV a.L) m).c.kind=3:=c20;show(aK (aV a.L) m).c.kind≠6;omega) (show iU ((aK (aV a.L) m).at_ x17.1 x17.2).c (oU h ((lv:Nat):Int))=none by simpa using c34),ok,AS.fF.refl a⟩,hw.rI⟩
  ·try (first|contradiction|(exfalso;omega))
   refine lL ?_;refine J0 ?_;refine K3g ?_;refine P3 ?_;refine aQ ?_;refine aA (fG bf (Jn b t key h) 0 hB rfl (hm:=hfm)) rfl ?_;refine aB ?_;refine aI (oI (((iU ((aK (aV a.L) m).at_ x17.1 x17.2).c (oU h ((lv:Nat):Int))).getD 0)) ok hm hA (D5 (v:=(aK (aV a.L) m).at_ x17.1 x17.2) nm (oU h ((lv:Nat):Int)))) (λ x42 h42=>?_);refine aJ (λ x8=>?_);refine J5 ?_;refine jN ?_;refine E2 ?_;refine aX (λ c45=>?_) (λ c45=>?_)
   ·try (first|contradiction|(exfalso;omega))
    refine J0 ?_;refine K3g ?_;refine bO ?_;refine aH (cV (hc:=λ w1 hw=>Xt (v:=(aK (aV a.L) ((iU ((aK (aV a.L) m).at_ x17.1 x17.2).c (oU h ((lv:Nat):Int))).getD 0)).at_ x42.1 x42.2) (hw.cl (.old (mU.eU (hB _ hfm)))))) (λ x48=>?_);refine aM (cC λ _=>aC rf bI rf (aY _) cY rf dM) (λ _=>?_);refine K3o ?_;intro w hw;refine⟨(fE _,[],a),rfl,⟨aCY hmm (cE m) (show(aK (aV a.L) m).c.kind=3 from c20) (q:=(iU ((aK (aV a.L) m).at_ x17.1 x17.2).c (oU h ((lv:Nat):Int))).getD 0) (jY (o:=iU ((aK (aV a.L) m).at_ x17.1 x17.2).c (oU h ((lv:Nat):Int))) (by simpa using c34)) (D5 (v:=(aK (aV a.L) m).at_ x17.1 x17.2) nm (oU h ((lv:Nat):Int))) ?_,ok,AS.fF.refl a⟩,hw.rI⟩;rw[cE,if_pos (by exact c45)];exact yl rfl
   ·try (first|contradiction|(exfalso;omega))
    refine Kc4 ?_;refine K3g ?_;refine aB ?_;refine aA (fG xl [iv ((lv:Nat):Int)] 0 hB rfl) rfl ?_;refine tZ ?_;refine aI (gK (λ w1 hw=>ih a _ A _ _ (lv+1) w1 hl hfm (D5 (v:=(aK (aV a.L) m).at_ x17.1 x17.2) nm (oU h ((lv:Nat):Int))) ok hm hA hB hw)) (λ x53 h53=>?_);refine aM (cC λ _=>aC rf bI rf (aY _) cY rf dM) (λ _=>?_);refine K3o ?_;intro w hw;refine⟨x53,rfl,⟨aCY hmm (cE m) (show(aK (aV a.L) m).c.kind=3 from c20) (q:=(iU ((aK (aV a.L) m).at_ x17.1 x17.2).c (oU h ((lv:Nat):Int))).getD 0) (jY (o:=iU ((aK (aV a.L) m).at_ x17.1 x17.2).c (oU h ((lv:Nat):Int))) (by simpa using c34)) (D5 (v:=(aK (aV a.L) m).at_ x17.1 x17.2) nm (oU h ((lv:Nat):Int))) ?_,h53.2⟩,hw.rN⟩;rw[cE,if_neg (by exact c45)];exact h53.1
 ·try (first|contradiction|(exfalso;omega))
  refine kT ?_;refine aX (λ c54=>?_) (λ c54=>?_)
  ·try (first|contradiction|(exfalso;omega))
   refine J0 ?_;refine K3g ?_;refine bO ?_;refine aH (cV (hc:=λ w1 hw=>Xt (v:=(aK (aV a.L) m).at_ x17.1 x17.2) (hw.cl (.old (mU.eU (hB _ hfm)))))) (λ x58=>?_);refine aM (cC λ _=>aC rf bI rf (aY _) cY rf dM) (λ _=>?_);refine K3o ?_;intro w hw;exact⟨(fE _,[],a),rfl,⟨aDN hmm (cE m) (show(aK (aV a.L) m).c.kind=5 from c54),ok,AS.fF.refl a⟩,hw.rI⟩
  ·try (first|contradiction|(exfalso;omega))
   refine kT ?_;refine aX (λ c59=>?_) (λ c59=>?_)
   ·try (first|contradiction|(exfalso;omega))
    refine aL ?_;refine K3w ?_;refine hY ?_;refine aS (i:=2) (hq:=(fG xf [pt bf] 0 hB rfl)) (h:=?_);refine J4 ?_;refine aS (i:=5) (hq:=(fG bf (Jn b t key h) 3 hB rfl (hm:=hfm))) (h:=?_);refine bR (i:=6) (hq:=(cV (v:=.tuple #[.int .u64 ((cS (aK (aV a.L) m).ys key).getD 0),.bool (cS (aK (aV a.L) m).ys key).isSome]) (hc:=λ w1 hw=>Zx (v:=aK (aV a.L) m) (iW ok.fit.all m) (hw.cl (.own .head))))) (h:=λ x68=>?_);refine Kc3 ?_;refine Vz ?_;refine J2 ?_;refine aE ?_;refine aX (λ c71=>?_) (λ c71=>?_)
    ·try (first|contradiction|(exfalso;omega))
     refine J2 ?_;refine aH (cV (hc:=λ w1 hw=>Gr _ w1)) (λ x73=>?_);refine aM (cC λ _=>aC rf bI rf (aY _) cY rf dM) (λ _=>?_);refine K3o ?_;intro w hw;exact⟨(fE _,[],a),rfl,⟨aC0 hmm (cE m) (show(aK (aV a.L) m).c.kind=6 from c59) (show(cS (aK (aV a.L) m).ys key).isSome=true by simpa using c71),ok,AS.fF.refl a⟩,hw.rI⟩
    ·try (first|contradiction|(exfalso;omega))
     refine rL ?_;refine J0 ?_;refine aH (cV (hc:=λ w1 hw=>wS w1)) (λ x74=>?_);refine aM (cC λ _=>aC rf bI rf (aY _) cY rf dM) (λ _=>?_);refine K3o ?_;intro w hw;exact⟨(fE (eG false 0),[],a),rfl,⟨aCe hmm (cE m) (show(aK (aV a.L) m).c.kind=6 from c59) (show cS (aK (aV a.L) m).ys key=none by simpa using c71),ok,AS.fF.refl a⟩,hw.rI⟩
   ·try (first|contradiction|(exfalso;omega))
    refine rL ?_;refine J0 ?_;refine aH (cV (hc:=λ w1 hw=>wS w1)) (λ x74=>?_);refine aM (cC λ _=>aC rf bI rf (aY _) cY rf dM) (λ _=>?_);refine K3o ?_;intro w hw;exact⟨(fE (eG false 0),[],a),rfl,⟨aCu hmm (cE m) c20 c54 c59,ok,AS.fF.refl a⟩,hw.rI⟩
theorem r8{n:Nat}(ht:t.root<=9223372036854775807)(hh:h<18446744073709551616)(ih:Sn b bf h t key n):Sn b bf h t key (n+1):=by
 intro a D A B i lv w hl hbf hi ok hm hA hB hs;have hT:∀x3 x5:Nat,tJ b (N1 t h key n ((lv:Nat):Int)) a.mm 138 [pt x3,pt x5] ([bx x3 [pt bf],bx x5 [iv ((lv:Nat):Int)]]++B):=λ x3 x5=>⟨by kernel_rfl,λ m s1 l hmm _=>q9 ih (by omega) hh hbf hmm⟩;refine enter func98 ntmps98 rfl rfl hs ?_;simp only[cN]
 refine K3f ?_;intro x3;refine K3k ?_;intro x5 x6;refine oT ?_;refine P3 ?_;refine aA (M2 bf (Jn b t key h) 0 3 hB rfl rfl (hm:=hbf)) rfl ?_;refine aB ?_;refine K2m ?_;(refine aH (aW.pre (λ w h=>(show SF _ _ [_,(b,dV a),(a.u,a.po)] _ ([bx x3 [pt bf],bx x5 [iv ((lv:Nat):Int)]]:Fr) _ w from(h.bS (.tail .head)).bS (.tail .head))) (gK (A0:=[bx x3 [pt bf],bx x5 [iv ((lv:Nat):Int)]]++A) (B:=[bx x3 [pt bf],bx x5 [iv ((lv:Nat):Int)]]++B) (hA:=bV.vX) (λ w1 hw=>qY ht (hT x3 x5) hi ok hm (λ f hf=>List.mem_append_right _ (hA f hf)) (mM hB) hw))) (λ x13=>?_);try (refine dQ (λ h13=>?_)));refine aM (cC λ _=>aC rf bI rf (aY _) cY rf dM) (λ _=>?_);refine aE ?_;refine bF results98 (λ w hw=>?_);refine⟨(x13.1,x13.2.1++[bx x3 [pt bf],bx x5 [iv ((lv:Nat):Int)]],x13.2.2),rfl,⟨?_,h13.2.1,h13.2.2.more λ f hf=>List.mem_append_left _ hf⟩,hw.rI⟩;have h13':=h13.1;rw[<- List.append_assoc] at h13';exact h13'
theorem ef(ht:t.root<=9223372036854775807)(hh:h<18446744073709551616):∀n,Sn b bf h t key n
 | 0=>wx
 | n+1=>r8 ht hh (ef ht hh n)
end
end
end Go.Proofs.YtdeecdfockjoiaaGreatDoor
