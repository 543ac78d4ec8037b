/- root: Help. -/
import Derived.Test.YtnilhhnfjfdokaaGreatDoorGFd1
import Derived.Test.YtnilhhnfjfdokaaGreatDoorGTt1

set_option linter.unusedSimpArgs false
set_option linter.unusedVariables false
namespace Go.Proofs.YtnilhhnfjfdokaaGreatDoor
section
open Go Go.RowKit Go.Ct
section
variable{D:List Nat}{A B:Fr}{a:AS}{b:Nat}{w:World}{f:FuncId}{cap:wN}{t:nS}
theorem Wr{K:Int->Tr}{v x:Int}{s:Mm}{b1 b2 b3:Nat}(ht:t.root<=9223372036854775807)(hK:sP b K s f cap B)(hv:v<=s.nodes.length):kL b 144 [pt b1,pt b2,pt b3] [.int .i64 x] (bx b1 (iS b t)::bx b2 [iv v]::bx b3 [fn f cap]::B) s (nN t v x K):=by
 intro a D A w em ok hm0 hA hB hw0
 subst em
 have hm:a.mm.Small:=hm0.small
 have hK2:=hK.more (B2:=(bx b1 (iS b t)::bx b2 [iv v]::bx b3 [fn f cap]::B)) (λ x hx=>by simp[hx])
 refine enter Tryz.func144 Tryz.ntmps144 rfl rfl hw0 ?_
 simp only[cP]
 refine J0 ?_;refine aI (λ x5=>?_);refine Kb4 ?_;refine aA (Jz b1 (iS b t) 0 3 hB rfl rfl) rfl ?_;refine aA (iG b2 [.int .i64 v] 0 hB rfl) rfl ?_;refine aB ?_;refine aA (iG b3 [fn f cap] 0 hB rfl) rfl ?_;refine aH (kV (λ w1 hw=>mU ht hK2 hv ok hm hA hB hw)) (λ x10 h10=>?_);refine aL (cE λ _=>aC rf bD rf (bA _) cY rf dI) (λ _=>?_);refine aD ?_
 refine bV Tryz.results144 (λ w hw=>?_)
 exact⟨x10,rfl,h10,hw.rN⟩
theorem S4{K:Int->Tr}{v:Int}{s:Mm}{b0 b1 b2 b3:Nat}{nd:Nd}(ht:t.root<=9223372036854775807)(hK:sP b K s f cap B)(hv:v<=s.nodes.length)(hst:(bU s.nodes v).status=nd.status):kL b 143 [pt b0,pt b1,pt b2,pt b3] [] (bx b0 (nd.cells:List Value)::bx b1 (iS b t)::bx b2 [iv v]::bx b3 [fn f cap]::B) s (.node v λ n=>.load n.status λ s=>nN t v s K):=by
 intro a D A w em ok hm0 hA hB hw0
 subst em
 have hm:a.mm.Small:=hm0.small
 have hd:nd.status<=9223372036854775807:=by rw[<- hst];exact kI hm (ok.mo.at v).status
 refine enter Tryz.func143 Tryz.ntmps143 rfl rfl hw0 ?_
 simp only[cP]
 refine J0 ?_;refine aI (λ x4=>?_);refine Kb4 ?_;refine aK ?_;refine aA (iG b0 (nd.cells:List Value) 13 hB rfl) rfl ?_;(refine aA bN rfl ?_);refine aF (cV (hc:=λ w1 hw=>kP _ _ _ w1)) (λ x8=>?_);refine aL (cE λ _=>aC rf bD rf (bA _) cY rf dI) (λ _=>?_);refine aD ?_
 refine bV Tryz.results143 (λ w hw=>?_)
 refine⟨(kO nd.status _ _,[],a),rfl,⟨⟨hv,?_⟩,ok,AS.fG.refl a⟩,hw.rI⟩
 dsimp only
 rw[hst]
 exact⟨rfl,hd,_,_,rfl,by kernel_rfl,λ x s1 l hx _=>(Wr (b1:=b1) (b2:=b2) (b3:=b3) ht (hK.le l) (by have hl:a.mm.nodes.length<=s1.nodes.length:=l.len;omega)).mr (λ y hy=>List.mem_cons_of_mem _ hy)⟩
theorem V6{K:Int->Tr}{v x:Int}{s:Mm}{b0 b1 b2 b3:Nat}{nd:Nd}(ht:t.root<=9223372036854775807)(hK:sP b K s f cap B)(hv:v<=s.nodes.length)(ho:(bU s.nodes v).old=nd.old)(he:(bU s.nodes v).exp=nd.exp)(hst:(bU s.nodes v).status=nd.status):kL b 140 [pt b1,pt b2,pt b3,pt b0] [.int .i64 x] (bx b1 (iS b t)::bx b2 [iv v]::bx b3 [fn f cap]::bx b0 (nd.cells:List Value)::B) s (if x=0 then Ad t v (.node v λ n=>.load n.status λ s=>nN t v s K) else nN t v x K):=by
 intro a D A w em ok hm0 hA hB hw0
 subst em
 have hm:a.mm.Small:=hm0.small
 have hK2:=hK.more (B2:=(bx b1 (iS b t)::bx b2 [iv v]::bx b3 [fn f cap]::bx b0 (nd.cells:List Value)::B)) (λ x hx=>by simp[hx])
 have hT:Pb b (.node v λ n=>.load n.status λ s=>nN t v s K) a.mm 143 ⟨[],[.pointer (some ⟨b0,0,none⟩),.pointer (some ⟨b1,0,none⟩),.pointer (some ⟨b2,0,none⟩),.pointer (some ⟨b3,0,none⟩)]⟩ (bx b1 (iS b t)::bx b2 [iv v]::bx b3 [fn f cap]::bx b0 (nd.cells:List Value)::B):=⟨by kernel_rfl,λ s1 l _=>(S4 (b0:=b0) (b1:=b1) (b2:=b2) (b3:=b3) (nd:=nd) ht (hK.le l) (by have hl:a.mm.nodes.length<=s1.nodes.length:=l.len;omega) (by rw[l.nd hv];exact hst)).mr (λ y hy=>by
  simp only[List.mem_cons] at hy ⊢
  rcases hy with h|h|h|h|h<;>simp[h])⟩
 refine enter Tryz.func140 Tryz.ntmps140 rfl rfl hw0 ?_
 simp only[cP]
 refine J0 ?_;refine aI (λ x6=>?_);refine Kc8 ?_;refine Kc9 ?_
 refine aU (λ c8=>?_) (λ c8=>?_)
 ·refine J0 ?_;refine aA (Jz b1 (iS b t) 0 3 hB rfl rfl) rfl ?_;refine aA (iG b2 [.int .i64 v] 0 hB rfl) rfl ?_;refine aB ?_;refine aA (iG b3 [fn f cap] 0 hB rfl) rfl ?_;refine aH (kV (λ w1 hw=>mU ht hK2 hv ok hm hA hB hw)) (λ x13 h13=>?_);refine aL (cE λ _=>aC rf bD rf (bA _) cY rf dI) (λ _=>?_);refine aD ?_
  refine bV Tryz.results140 (λ w hw=>?_)
  refine⟨x13,rfl,⟨?_,h13.2⟩,hw.rN⟩
  rw[if_neg (by omega)]
  exact h13.1
 ·refine Kc1 ?_;refine aA (Jz b1 (iS b t) 0 3 hB rfl rfl) rfl ?_;refine aA (Jz b0 (nd.cells:List Value) 0 14 hB rfl rfl) rfl ?_;(refine aA bN rfl ?_);refine aH (kV (λ w1 hw=>Q2 (nd:=nd) ht hT hv ho he hst ok hm hA hB hw)) (λ x17 h17=>?_);refine aL (cE λ _=>aC rf bD rf (bA _) cY rf dI) (λ _=>?_);refine aD ?_
  refine bV Tryz.results140 (λ w hw=>?_)
  refine⟨x17,rfl,⟨?_,h17.2⟩,hw.rN⟩
  rw[if_pos (by omega)]
  exact h17.1
theorem Wh{K:Int->Tr}{v:Int}{s:Mm}{b1 b3:Nat}(ht:t.root<=9223372036854775807)(hK:sP b K s f cap B)(hv:v<=s.nodes.length)(hns:(bU s.nodes v).kind=2->Ns (K v) s):kL b 139 [pt b1,pt b3] [.int .i64 v] (bx b1 (iS b t)::bx b3 [fn f cap]::B) s (.node v λ n=>if n.kind=2 then K v else .node v λ n=>.load n.status λ s=>if s=0 then Ad t v (.node v λ n=>.load n.status λ s=>nN t v s K) else nN t v s K):=by
 intro a D A w em ok hm0 hA hB hw0
 subst em
 have hm:a.mm.Small:=hm0.small
 have hK2:=hK.more (B2:=(bx b1 (iS b t)::bx b3 [fn f cap]::B)) (λ x hx=>by simp[hx])
 have nv:=rA ok v
 refine enter Tryz.func139 Tryz.ntmps139 rfl rfl hw0 ?_
 simp only[cP]
 refine J0 ?_;refine bF (λ x3=>?_);refine aI (λ x4=>?_);refine Kb4 ?_;refine aK ?_;refine aA (iG b1 (iS b t) 0 hB rfl) rfl ?_;refine bP ?_;refine aH (qG v ok hm hA hv) (λ x9 h9=>?_);refine aI (λ x5=>?_);refine J5 ?_;refine C3 ?_;refine D0 ?_
 refine aU (λ c12=>?_) (λ c12=>?_)
 ·refine J0 ?_;refine aA (iG b3 [fn f cap] 0 hB rfl) rfl ?_;refine bP ?_;refine aH (Fs hK2.1 (hK2.2 v a.mm (Mm.Le.refl _) hv (hns (by rw[eJ];assumption))) ok hm0 hA hB) (λ x15 h15=>?_);refine aL (cE λ _=>aC rf bD rf (bA _) cY rf dI) (λ _=>?_);refine aD ?_
  refine bV Tryz.results139 (λ w hw=>?_)
  refine⟨x15,rfl,⟨⟨hv,?_⟩,h15.2⟩,hw.rN⟩
  rw[eJ]
  dsimp only
  rw[if_pos (by assumption)]
  exact h15.1
 ·refine bB ?_;refine jA ?_;(refine aA bN rfl ?_);refine aF (cV (hc:=λ w1 hw=>kP _ _ _ w1)) (λ x19=>?_);refine aL (cE λ _=>aC rf bD rf (bA _) cY rf dI) (λ _=>?_);refine aD ?_
  refine bV Tryz.results139 (λ w hw=>?_)
  refine⟨(kO (aZ (cN a.L) v).nd.status _ _,[bx x5 (((aZ (cN a.L) v).at_ x9.1 x9.2).nd.cells:List Value),bx x3 [iv v]],a),rfl,⟨⟨hv,?_⟩,ok,(AS.fG.refl a).more (λ _ h=>(List.not_mem_nil h).elim)⟩,?_⟩
  ·rw[eJ]
   dsimp only
   rw[if_neg (by assumption)]
   refine⟨hv,?_⟩
   rw[eJ]
   refine⟨rfl,kI hm nv.status,_,_,rfl,by kernel_rfl,λ x s1 l hx _=>?_⟩
   have hlen:a.mm.nodes.length<=s1.nodes.length:=l.len
   exact(V6 (b0:=x5) (b1:=b1) (b2:=x3) (b3:=b3) (nd:=((aZ (cN a.L) v).at_ x9.1 x9.2).nd) ht (hK.le l) (by omega) (by rw[l.nd hv,eJ];rfl) (by rw[l.nd hv,eJ];rfl) (by rw[l.nd hv,eJ];rfl)).mr (λ y hy=>by
   simp only[List.mem_cons,List.append_eq,List.nil_append,List.mem_append,List.not_mem_nil,or_false] at hy ⊢
   rcases hy with h|h|h|h|h<;>simp[h])
  ·exact((hw.cC (.tail (.tail .head))).cC .head).rI
theorem N8{K:Int->Tr}(ht:t.root<=9223372036854775807)(hK:sP b K a.mm f cap B)(ok:a.Ok)(hm:a.mm.Small)(hA:∀f∈dV a.L,f∈A)(hB:∀x∈B,x∈A)(hs:SF w D [(b,eN a),(a.u,a.po)] A [] (fD a) w) :
  Calls Tryz.prog 103 #[.agg ⟨iS b t⟩,fn f cap] w (mS b (λ c' s' B'=>fN b (qB t K) a.mm c' s' B') a B D w):=by
 refine enter Tryz.func103 Tryz.ntmps103 rfl rfl hs ?_
 simp only[cP]
 refine J0 ?_;refine bF (λ x2=>?_);refine bF (λ x3=>?_);refine aI (λ x4=>?_);refine Kb4 ?_;refine aK ?_;refine J3 ?_;(refine aA bN rfl ?_);refine aF (cV (hc:=λ w1 hw=>kP _ _ _ w1)) (λ x9=>?_);refine aL (cE λ _=>aC rf bD rf (bA _) cY rf dI) (λ _=>?_);refine aD ?_
 refine bV Tryz.results103 (λ w hw=>?_)
 refine⟨(kO t.root _ _,[bx x2 (iS b t),bx x3 [fn f cap]],a),rfl,⟨⟨rfl,ht,_,_,rfl,by kernel_rfl,λ v s1 l hv hns=>Wh (b1:=x2) (b3:=x3) ht (hK.le l) hv (λ k=>by have h:Ns (if(bU s1.nodes v).kind=2 then K v else _) s1:=hns;rw[if_pos k] at h;exact h)⟩,ok,(AS.fG.refl a).more (λ _ h=>(List.not_mem_nil h).elim)⟩,?_⟩
 exact((hw.cC (.tail .head)).cC (.tail .head)).rI
end
end

/- What lookups, insertions in a C-node give. -/
section
open Go Go.RowKit Go.Ct
theorem V3{v:Nv}{k b:Int}(h:qI v k=some b):v.kind=3:=by
 unfold qI at h
 have:=Rh (show(Kz v.nd v.xs v.ys v.bm.toNat k).isSome=true by rw[h];rfl)
 exact this.1.1
structure Kk(n:Nat)(o:Option (Nat×List Int)):Prop where
 out:∀q,o=some q->q.1<18446744073709551616/\q.2.length<=64/\∀r∈q.2,r<=n
theorem Nj{b:Nat}{xs:List Int}(h:BV b xs):xs.length<=64:=by rw[h.len];exact Gi b 64
theorem Xi{xs:List Int}{p:Nat}{r v:Int}(h:v∈B8 xs p r):v∈xs∨v=r:=by
 unfold B8 at h
 rcases List.mem_append.1 h with h|h
 ·exact .inl (List.mem_of_mem_take h)
 ·rcases List.mem_cons.1 h with h|h
  ·exact .inr h
  ·exact .inl (List.mem_of_mem_drop h)
theorem X7{xs:List Int}{p:Nat}{r v:Int}(h:v∈tM xs p r):v∈xs∨v=r:=by
 unfold tM at h
 rcases List.mem_append.1 h with h|h
 ·exact .inl (List.mem_of_mem_take h)
 ·rcases List.mem_cons.1 h with h|h
  ·exact .inr h
  ·exact .inl (List.mem_of_mem_drop h)
section
variable{n:Nd}{xs:List Int}{ys:List Pr}{b m:Nat}
theorem Xy(hb:n.bm=(b:Int))(hb2:b<18446744073709551616)(hx:∀r∈xs,r<=m){r:Int}(hr:r<=m)(i:Int):Kk m (Lh n xs ys b i r):=⟨λ q hq=>by
 unfold Lh at hq
 split at hq
 ·rename_i h
  cases hq
  obtain⟨h1,h2,h3⟩:=h
  have hv:=h1.bv hb hb2
  obtain⟨e1,e2,e3,e4⟩:=rM h3
  have:=(e8 hv (i:=i.toNat) (by omega) e3 h2).1
  rw[<- e4] at this
  exact⟨this.lt,Nj this,λ v hv=>(Xi hv).elim (hx v) (λ e=>e▸hr)⟩
 ·cases hq⟩
theorem Y6(hb:n.bm=(b:Int))(hb2:b<18446744073709551616)(hx:∀r∈xs,r<=m){r:Int}(hr:r<=m)(i:Int):Kk m (Gp n xs ys b i r):=⟨λ q hq=>by
 unfold Gp at hq
 split at hq
 ·rename_i h
  cases hq
  obtain⟨h1,h0,h2,h3⟩:=h
  have hv:=h1.bv hb hb2
  have e:i=((i.toNat:Nat):Int):=by omega
  have hk:i.toNat<64:=by omega
  rw[e] at h3 ⊢
  rw[uW b hk] at h3
  have:=(Vg hv (i:=i.toNat) hk h3 h2).1
  rw[Di b hk,As b hk]
  exact⟨this.lt,Nj this,λ v hv=>(X7 hv).elim (hx v) (λ e=>e▸hr)⟩
 ·cases hq⟩
end
theorem Kk.re{m c:Nat}{o:Option (Nat×List Int)}(h:Kk m o)(x:Option Addr×Nat):uJ m c {(C4 o x).c (sS o) [] with main:=0,prev:=0,status:=0}:=by
 rw[Lx]
 cases o with
 | none=>exact⟨pR _,pR _,pR _,(λ r hr=>nomatch hr),pR _,pR _,pR _,⟨0,rfl,by decide⟩,⟨0,rfl,by decide⟩⟩
 | some q =>
  have h1:=h.out q rfl
  exact⟨pR _,pR _,pR _,h1.2.2,pR _,pR _,pR _,⟨q.1,rfl,h1.1⟩,⟨0,rfl,by decide⟩⟩
theorem N4(o:Option (Nat×List Int))(x:Option Addr×Nat):(C4 o x).brN=(sS o).length:=by cases o<;>rfl
theorem M0(o:Option (Nat×List Int))(x:Option Addr×Nat):(C4 o x).prN=([]:List Pr).length:=by cases o<;>rfl
section
variable{v:eY}{n c:Nat}{w:World}
theorem hY(h:uJ n c v.c):v.nd.bm=((v.c.bm.toNat:Nat):Int)/\v.c.bm.toNat<18446744073709551616:=by
 obtain⟨b,h1,h2⟩:=h.bm
 have h3:v.nd.bm=(b:Int):=h1
 have h4:v.c.bm=(b:Int):=h1
 rw[h3,h4]
 exact⟨by simp,by simpa using h2⟩
theorem Ah(h:uJ n c v.c)(i:Int):(qI v.c i).getD 0<=n:=by
 have h1:=hY h
 have e:=mb (xs:=v.xs) (ys:=v.ys) h1.1 i
 rw[show qI v.c i=qI (v.nd.c v.xs v.ys) i from rfl,<- e]
 unfold Kz
 split
 ·exact M8 h.br _
 ·exact pR _
abbrev Pu(v:eY)(i r:Int):Option (Nat×List Int):=Lh v.nd v.xs v.ys v.c.bm.toNat i r
abbrev Po(v:eY)(i r:Int):Option (Nat×List Int):=Gp v.nd v.xs v.ys v.c.bm.toNat i r
theorem kv(h:uJ n c v.c)(i r:Int)(x:Option Addr×Nat):jk v.c i r=(C4 (Pu v i r) x).c (sS (Pu v i r)) []:=by
 rw[Lx]
 exact(qn (hY h).1 i r).symm
theorem k9(h:uJ n c v.c)(i r:Int)(x:Option Addr×Nat):C1 v.c i r=(C4 (Po v i r) x).c (sS (Po v i r)) []:=by
 rw[Lx]
 exact(pu (hY h).1 i r).symm
theorem az(h:uJ n c v.c){r:Int}(hr:r<=n)(i:Int):Kk n (Pu v i r):=Xy (hY h).1 (hY h).2 h.br hr i
theorem bw(h:uJ n c v.c){r:Int}(hr:r<=n)(i:Int):Kk n (Po v i r):=Y6 (hY h).1 (hY h).2 h.br hr i
end
end

/- find: the lookup goes down. -/
section
open Go Go.RowKit Go.Ct
section
variable{D:List Nat}{A B:Fr}{a:AS}{b:Nat}{w:World}{f:FuncId}{cap:wN}{t:nS}
theorem Vp{i:Int}(hi:i<=a.mm.nodes.length)(ok:a.Ok)(hm:a.mm.Small)(hA:∀f∈dV a.L,f∈A)(hs:SF w D [(b,eN a),(a.u,a.po)] A [] (fD a) w) :
  Calls Tryz.prog 109 #[.agg ⟨iS b t⟩,.int .i64 i,fn f cap] w (mS b (λ _ _ _=>True) a B D w):=by
 refine enter Tryz.func109 Tryz.ntmps109 rfl rfl hs ?_
 simp only[cP]
 refine J0 ?_;refine bF (λ x3=>?_);refine bF (λ x4=>?_);refine bF (λ x5=>?_);refine aI (λ x6=>?_);refine aD ?_;refine jA ?_;refine bP ?_;refine aH (qG i ok hm hA hi) (λ x10 h10=>?_);refine nF ?_;(refine aA bN rfl ?_);refine aF (cV (hc:=λ w1 hw=>kP _ _ _ w1)) (λ x13=>?_);refine aL (cE λ _=>aC rf bD rf (bA _) cY rf dI) (λ _=>?_);refine aD ?_
 refine bV Tryz.results109 (λ w hw=>?_)
 exact⟨(kO (aZ (cN a.L) i).nd.main _ _,[bx x3 (iS b t),bx x4 [iv i],bx x5 [fn f cap]],a),rfl,⟨trivial,ok,(AS.fG.refl a).more (λ _ h=>(List.not_mem_nil h).elim)⟩,(((hw.cC (.tail .head)).cC (.tail .head)).cC (.tail .head)).rI⟩
variable{bf h:Nat}{key:ByteArray}
def Hp(b bf h:Nat)(t:nS)(key:ByteArray)(n:Nat):Prop:=∀(a:AS) (D:List Nat) (A B:Fr) (i:Int) (lv:Nat) (w:World),lv+n<=4294967296->bx bf (Cx b t key h)∈B->i<=a.mm.nodes.length->a.Ok->a.mm.Small->(∀f∈dV a.L,f∈A)->(∀x∈B,x∈A)->SF w D [(b,eN a),(a.u,a.po)] A [] (fD a) w ->
  Calls Tryz.prog 105 #[pt bf,.int .i64 i,.int .i64 ((lv:Nat):Int)] w (mS b (λ c' s' B'=>fN b (nK t h key .done n i ((lv:Nat):Int)) a.mm c' s' B') a B D w)
theorem Zi:Hp b bf h t key 0:=by
 intro a D A B i lv w hl hbf hi ok hm hA hB hs
 refine enter Tryz.func105 Tryz.ntmps105 rfl rfl hs ?_
 simp only[cP]
 refine J0 ?_;refine bF (λ x3=>?_);refine bF (λ x5=>?_);refine aI (λ x6=>?_);refine aD ?_;refine pV ?_;refine M2 ?_;refine aA (Jz bf (Cx b t key h) 0 3 hB rfl rfl (hm:=hbf)) rfl ?_;refine aB ?_;(refine aA bN rfl ?_);(refine aF (aQ.pre (λ w h=>(show SF _ _ [_,(b,eN a),(a.u,a.po)] _ ([bx x3 [pt bf],bx x5 [iv ((lv:Nat):Int)]]:Fr) _ w from(h.cC (.tail .head)).cC (.tail .head))) (kV (A0:=[bx x3 [pt bf],bx x5 [iv ((lv:Nat):Int)]]++A) (B:=[bx x3 [pt bf],bx x5 [iv ((lv:Nat):Int)]]++B) (hA:=cA.Gm) (λ w1 hw=>Vp (f:=145) (cap:=⟨[],[pt x3,pt x5]⟩) hi ok hm (λ f hf=>List.mem_append_right _ (hA f hf)) hw))) (λ x13=>?_);try (refine eH (λ h13=>?_)));refine aL (cE λ _=>aC rf bD rf (bA _) cY rf dI) (λ _=>?_);refine aD ?_
 refine bV Tryz.results105 (λ w hw=>?_)
 exact⟨(x13.1,x13.2.1++[bx x3 [pt bf],bx x5 [iv ((lv:Nat):Int)]],x13.2.2),rfl,⟨trivial,h13.2.1,h13.2.2.more λ f hf=>List.mem_append_left _ hf⟩,hw.rI⟩
noncomputable def Fe (t:nS) (h:Nat) (key:ByteArray) (n:Nat) (level:Int) (mr:Int):Tr:=.node mr λ m =>
  if m.kind=5 then(if m.key=key then .done (dG true m.val) else .done (dG false 0))
  else if m.kind=6 then .done (dG (iO m.ys key).isSome ((iO m.ys key).getD 0))
  else match qI m (iF h level) with
   | none=>.done (dG false 0)
   | some b=>.node b λ s=>if s.kind=4 then(if s.key=key then .done (dG true s.val) else .done (dG false 0)) else nK t h key .done n b (level+1)
theorem rY{o:Option Int}(h:o.isSome=true):o=some (o.getD 0):=by cases o with|none=>cases h|some a=>rfl
theorem b9{s:Mm}{c:Cd}{B:Fr}{p:Prop} [Decidable p] {x y:Rs}(e:c=fP (if p then x else y)):fN b (if p then .done x else .done y) s c s B:=by
 split
 ·rename_i hp;rw[if_pos hp] at e;exact⟨rfl,e⟩
 ·rename_i hp;rw[if_neg hp] at e;exact⟨rfl,e⟩
section
variable{s:Mm}{m l:Int}{n:Nat}{u:Nv}
theorem qj(hm:m<=s.nodes.length)(e:bU s.nodes m=u)(k:u.kind=5):fN b (Fe t h key n l m) s (fP (if u.key=key then dG true u.val else dG false 0)) s B:=by
 subst e
 refine⟨hm,?_⟩
 show fN b (if(bU s.nodes m).kind=5 then _ else _) s _ s B
 rw[if_pos k]
 exact b9 rfl
theorem lg(hm:m<=s.nodes.length)(e:bU s.nodes m=u)(k:u.kind=6):fN b (Fe t h key n l m) s (fP (dG (iO u.ys key).isSome ((iO u.ys key).getD 0))) s B:=by
 subst e
 refine⟨hm,?_⟩
 show fN b (if(bU s.nodes m).kind=5 then _ else if(bU s.nodes m).kind=6 then _ else _) s _ s B
 rw[if_neg (by omega),if_pos k]
 exact⟨rfl,rfl⟩
theorem m7(hm:m<=s.nodes.length)(e:bU s.nodes m=u)(k5:u.kind≠5)(k6:u.kind≠6)(hk:qI u (iF h l)=none):fN b (Fe t h key n l m) s (fP (dG false 0)) s B:=by
 subst e
 refine⟨hm,?_⟩
 show fN b (if(bU s.nodes m).kind=5 then _ else if(bU s.nodes m).kind=6 then _ else _) s _ s B
 rw[if_neg k5,if_neg k6,hk]
 exact⟨rfl,rfl⟩
theorem my(hm:m<=s.nodes.length)(e:bU s.nodes m=u)(k:u.kind=6)(hf:(iO u.ys key).isSome=true):fN b (Fe t h key n l m) s (fP (dG true ((iO u.ys key).getD 0))) s B:=by
 have:=lg (b:=b) (B:=B) (t:=t) (h:=h) (key:=key) (l:=l) (n:=n) hm e k
 rw[hf] at this
 exact this
theorem li(hm:m<=s.nodes.length)(e:bU s.nodes m=u)(k:u.kind=6)(hf:iO u.ys key=none):fN b (Fe t h key n l m) s (fP (dG false 0)) s B:=by
 have:=lg (b:=b) (B:=B) (t:=t) (h:=h) (key:=key) (l:=l) (n:=n) hm e k
 rw[hf] at this
 exact this
theorem n8(hm:m<=s.nodes.length)(e:bU s.nodes m=u)(k3:¬u.kind=3)(k5:¬u.kind=5)(k6:¬u.kind=6):fN b (Fe t h key n l m) s (fP (dG false 0)) s B :=
 m7 hm e k5 k6 (by cases hk:qI u (iF h l) with|none=>rfl|some q=>exact absurd (V3 hk) k3)
theorem m6(hm:m<=s.nodes.length)(e:bU s.nodes m=u)(k3:u.kind=3){c:Cd}{s2:Mm}{q:Int}(hk:qI u (iF h l)=some q)(hq:q<=s.nodes.length)(hc:fN b (if(bU s.nodes q).kind=4 then(if(bU s.nodes q).key=key then .done (dG true (bU s.nodes q).val) else .done (dG false 0)) else nK t h key .done n q (l+1)) s c s2 B):fN b (Fe t h key n l m) s c s2 B:=by
 subst e
 refine⟨hm,?_⟩
 show fN b (if(bU s.nodes m).kind=5 then _ else if(bU s.nodes m).kind=6 then _ else _) s _ s2 B
 rw[if_neg (by omega),if_neg (by omega),hk]
 exact⟨hq,hc⟩
end
set_option maxHeartbeats 1000000 in
theorem Xt{n lv:Nat}{m:Int}{s:Mm}{xf xl:Nat}(ih:Hp b bf h t key n)(hl:lv+1+n<=4294967296)(hh:h<18446744073709551616)(hbf:bx bf (Cx b t key h)∈B)(hmm:m<=s.nodes.length):kL b 145 [pt xf,pt xl] [.int .i64 m] (bx xf [pt bf]::bx xl [iv ((lv:Nat):Int)]::B) s (Fe t h key n ((lv:Nat):Int) m):=by
 intro a D A w em ok hm0 hA hB hw0
 subst em
 have hm:a.mm.Small:=hm0.small
 have hfm:bx bf (Cx b t key h)∈bx xf [pt bf]::bx xl [iv ((lv:Nat):Int)]::B:=List.mem_cons_of_mem _ (List.mem_cons_of_mem _ hbf)
 have nm:=rA ok m
 refine enter Tryz.func145 Tryz.ntmps145 rfl rfl hw0 ?_
 simp only[cP]
 refine J0 ?_;refine aI (λ x4=>?_);refine Kb4 ?_;refine aA (iG xf [pt bf] 0 hB rfl) rfl ?_;refine M2 ?_;refine aK ?_;refine aA (iG bf (Cx b t key h) 0 hB rfl (hm:=hfm)) rfl ?_;refine aB ?_;refine aH (qG m ok hm hA hmm) (λ x17 h17=>?_);refine aI (λ x5=>?_);refine J5 ?_;refine C3 ?_;refine Kb9 ?_;refine jN ?_
 refine aU (λ c20=>?_) (λ c20=>?_)
 ·try (first|contradiction|(exfalso;omega))
  refine aJ ?_;refine eG [(0,[]),(1,[]),(2,[]),(3,[]),(4,[]),(5,[]),(6,[0]),(7,[]),(8,[]),(9,[]),(10,[]),(11,[]),(12,[])] ?_;refine cB ?_;refine aS (i:=1) (hq:=(iG xf [pt bf] 0 hB rfl)) (h:=?_);refine J4 ?_;refine aS (i:=4) (hq:=(iG bf (Cx b t key h) 4 hB rfl (hm:=hfm))) (h:=?_);refine aS (i:=5) (hq:=(iG xl [iv ((lv:Nat):Int)] 0 hB rfl)) (h:=?_);refine bZ (i:=6) (hq:=(cV (hc:=λ w1 hw=>A6 hh ((lv:Nat):Int) w1))) (h:=λ x29=>?_);refine bZ (i:=7) (hq:=(cV (hc:=λ w1 hw=>Tv (v:=(aZ (cN a.L) m).at_ x17.1 x17.2) nm (iF h ((lv:Nat):Int)) ((eY.Sq (xI ok.fit.all m) _ _).C8 (hw.cl (.own (.tail .head))) (hw.cl (.own .head)))))) (h:=λ x30=>?_);refine aR ?_;refine eP ?_;refine eP ?_;refine dg ?_;refine gS ?_;refine wO ?_
  refine aU (λ c34=>?_) (λ c34=>?_)
  ·try (first|contradiction|(exfalso;omega))
   refine J0 ?_;refine aF (cV (hc:=λ w1 hw=>rV w1)) (λ x35=>?_);refine aL (cE λ _=>aC rf bD rf (bA _) cY rf dI) (λ _=>?_);refine aD ?_
   refine bV Tryz.results145 (λ w hw=>?_)
   exact⟨(fP (dG false 0),[],a),rfl,⟨m7 hmm (eJ m) (by have e:(aZ (cN a.L) m).c.kind=3:=c20;show(aZ (cN a.L) m).c.kind≠5;omega) (by have e:(aZ (cN a.L) m).c.kind=3:=c20;show(aZ (cN a.L) m).c.kind≠6;omega) (show qI ((aZ (cN a.L) m).at_ x17.1 x17.2).c (iF h ((lv:Nat):Int))=none by simpa using c34),ok,AS.fG.refl a⟩,hw.rI⟩
  ·try (first|contradiction|(exfalso;omega))
   refine lS ?_;refine J0 ?_;refine aA (iG xf [pt bf] 0 hB rfl) rfl ?_;refine M2 ?_;refine aK ?_;refine aA (iG bf (Cx b t key h) 0 hB rfl (hm:=hfm)) rfl ?_;refine aB ?_;refine aH (qG (((qI ((aZ (cN a.L) m).at_ x17.1 x17.2).c (iF h ((lv:Nat):Int))).getD 0)) ok hm hA (Ah (v:=(aZ (cN a.L) m).at_ x17.1 x17.2) nm (iF h ((lv:Nat):Int)))) (λ x42 h42=>?_);refine aI (λ x8=>?_);refine J5 ?_;refine jA ?_;refine D0 ?_
   refine aU (λ c45=>?_) (λ c45=>?_)
   ·try (first|contradiction|(exfalso;omega))
    refine J0 ?_;refine aA (iG xf [pt bf] 0 hB rfl) rfl ?_;refine bP ?_;refine aF (cV (hc:=λ w1 hw=>Nb (v:=(aZ (cN a.L) ((qI ((aZ (cN a.L) m).at_ x17.1 x17.2).c (iF h ((lv:Nat):Int))).getD 0)).at_ x42.1 x42.2) (hw.cl (.old (mV.gE (hB _ hfm)))))) (λ x48=>?_);refine aL (cE λ _=>aC rf bD rf (bA _) cY rf dI) (λ _=>?_);refine aD ?_
    refine bV Tryz.results145 (λ w hw=>?_)
    refine⟨(fP _,[],a),rfl,⟨m6 hmm (eJ m) (show(aZ (cN a.L) m).c.kind=3 from c20) (q:=(qI ((aZ (cN a.L) m).at_ x17.1 x17.2).c (iF h ((lv:Nat):Int))).getD 0) (rY (o:=qI ((aZ (cN a.L) m).at_ x17.1 x17.2).c (iF h ((lv:Nat):Int))) (by simpa using c34)) (Ah (v:=(aZ (cN a.L) m).at_ x17.1 x17.2) nm (iF h ((lv:Nat):Int))) ?_,ok,AS.fG.refl a⟩,hw.rI⟩
    rw[eJ,if_pos (by exact c45)]
    exact b9 rfl
   ·try (first|contradiction|(exfalso;omega))
    refine Kc1 ?_;refine aA (iG xf [pt bf] 0 hB rfl) rfl ?_;refine aB ?_;refine aA (iG xl [iv ((lv:Nat):Int)] 0 hB rfl) rfl ?_;refine rD ?_;refine aH (kV (λ w1 hw=>ih a _ A _ _ (lv+1) w1 hl hfm (Ah (v:=(aZ (cN a.L) m).at_ x17.1 x17.2) nm (iF h ((lv:Nat):Int))) ok hm hA hB hw)) (λ x53 h53=>?_);refine aL (cE λ _=>aC rf bD rf (bA _) cY rf dI) (λ _=>?_);refine aD ?_
    refine bV Tryz.results145 (λ w hw=>?_)
    refine⟨x53,rfl,⟨m6 hmm (eJ m) (show(aZ (cN a.L) m).c.kind=3 from c20) (q:=(qI ((aZ (cN a.L) m).at_ x17.1 x17.2).c (iF h ((lv:Nat):Int))).getD 0) (rY (o:=qI ((aZ (cN a.L) m).at_ x17.1 x17.2).c (iF h ((lv:Nat):Int))) (by simpa using c34)) (Ah (v:=(aZ (cN a.L) m).at_ x17.1 x17.2) nm (iF h ((lv:Nat):Int))) ?_,h53.2⟩,hw.rN⟩
    rw[eJ,if_neg (by exact c45)]
    exact h53.1
 ·try (first|contradiction|(exfalso;omega))
  refine jN ?_
  refine aU (λ c54=>?_) (λ c54=>?_)
  ·try (first|contradiction|(exfalso;omega))
   refine J0 ?_;refine aA (iG xf [pt bf] 0 hB rfl) rfl ?_;refine bP ?_;refine aF (cV (hc:=λ w1 hw=>Nb (v:=(aZ (cN a.L) m).at_ x17.1 x17.2) (hw.cl (.old (mV.gE (hB _ hfm)))))) (λ x58=>?_);refine aL (cE λ _=>aC rf bD rf (bA _) cY rf dI) (λ _=>?_);refine aD ?_
   refine bV Tryz.results145 (λ w hw=>?_)
   exact⟨(fP _,[],a),rfl,⟨qj hmm (eJ m) (show(aZ (cN a.L) m).c.kind=5 from c54),ok,AS.fG.refl a⟩,hw.rI⟩
  ·try (first|contradiction|(exfalso;omega))
   refine jN ?_
   refine aU (λ c59=>?_) (λ c59=>?_)
   ·try (first|contradiction|(exfalso;omega))
    refine aJ ?_;refine iM [0,1,2,3,4,5,6,7,8,9,10,11] ?_;refine gY ?_;refine aS (i:=2) (hq:=(iG xf [pt bf] 0 hB rfl)) (h:=?_);refine J4 ?_;refine aS (i:=5) (hq:=(iG bf (Cx b t key h) 3 hB rfl (hm:=hfm))) (h:=?_);refine bZ (i:=6) (hq:=(cV (v:=.tuple #[.int .u64 ((iO (aZ (cN a.L) m).ys key).getD 0),.bool (iO (aZ (cN a.L) m).ys key).isSome]) (hc:=λ w1 hw=>O9 (v:=aZ (cN a.L) m) (xI ok.fit.all m) (hw.cl (.own .head))))) (h:=λ x68=>?_);refine aR ?_;refine eP ?_;refine eP ?_;refine dg ?_;refine J2 ?_;refine aD ?_
    refine aU (λ c71=>?_) (λ c71=>?_)
    ·try (first|contradiction|(exfalso;omega))
     refine J2 ?_;refine aF (cV (hc:=λ w1 hw=>Am _ w1)) (λ x73=>?_);refine aL (cE λ _=>aC rf bD rf (bA _) cY rf dI) (λ _=>?_);refine aD ?_
     refine bV Tryz.results145 (λ w hw=>?_)
     exact⟨(fP _,[],a),rfl,⟨my hmm (eJ m) (show(aZ (cN a.L) m).c.kind=6 from c59) (show(iO (aZ (cN a.L) m).ys key).isSome=true by simpa using c71),ok,AS.fG.refl a⟩,hw.rI⟩
    ·try (first|contradiction|(exfalso;omega))
     refine oC ?_;refine J0 ?_;refine aF (cV (hc:=λ w1 hw=>rV w1)) (λ x74=>?_);refine aL (cE λ _=>aC rf bD rf (bA _) cY rf dI) (λ _=>?_);refine aD ?_
     refine bV Tryz.results145 (λ w hw=>?_)
     exact⟨(fP (dG false 0),[],a),rfl,⟨li hmm (eJ m) (show(aZ (cN a.L) m).c.kind=6 from c59) (show iO (aZ (cN a.L) m).ys key=none by simpa using c71),ok,AS.fG.refl a⟩,hw.rI⟩
   ·try (first|contradiction|(exfalso;omega))
    refine oC ?_;refine J0 ?_;refine aF (cV (hc:=λ w1 hw=>rV w1)) (λ x74=>?_);refine aL (cE λ _=>aC rf bD rf (bA _) cY rf dI) (λ _=>?_);refine aD ?_
    refine bV Tryz.results145 (λ w hw=>?_)
    exact⟨(fP (dG false 0),[],a),rfl,⟨n8 hmm (eJ m) c20 c54 c59,ok,AS.fG.refl a⟩,hw.rI⟩
theorem Xj{n:Nat}(ht:t.root<=9223372036854775807)(hh:h<18446744073709551616)(ih:Hp b bf h t key n):Hp b bf h t key (n+1):=by
 intro a D A B i lv w hl hbf hi ok hm hA hB hs
 have hT:∀x3 x5:Nat,sP b (Fe t h key n ((lv:Nat):Int)) a.mm 145 [pt x3,pt x5] ([bx x3 [pt bf],bx x5 [iv ((lv:Nat):Int)]]++B):=λ x3 x5=>⟨by kernel_rfl,λ m s1 l hmm _=>Xt ih (by omega) hh hbf hmm⟩
 refine enter Tryz.func105 Tryz.ntmps105 rfl rfl hs ?_
 simp only[cP]
 refine J0 ?_;refine bF (λ x3=>?_);refine bF (λ x5=>?_);refine aI (λ x6=>?_);refine aD ?_;refine pV ?_;refine M2 ?_;refine aA (Jz bf (Cx b t key h) 0 3 hB rfl rfl (hm:=hbf)) rfl ?_;refine aB ?_;(refine aA bN rfl ?_);(refine aF (aQ.pre (λ w h=>(show SF _ _ [_,(b,eN a),(a.u,a.po)] _ ([bx x3 [pt bf],bx x5 [iv ((lv:Nat):Int)]]:Fr) _ w from(h.cC (.tail .head)).cC (.tail .head))) (kV (A0:=[bx x3 [pt bf],bx x5 [iv ((lv:Nat):Int)]]++A) (B:=[bx x3 [pt bf],bx x5 [iv ((lv:Nat):Int)]]++B) (hA:=cA.Gm) (λ w1 hw=>Gs ht (hT x3 x5) hi ok hm (λ f hf=>List.mem_append_right _ (hA f hf)) (uH hB) hw))) (λ x13=>?_);try (refine eH (λ h13=>?_)));refine aL (cE λ _=>aC rf bD rf (bA _) cY rf dI) (λ _=>?_);refine aD ?_
 refine bV Tryz.results105 (λ w hw=>?_)
 refine⟨(x13.1,x13.2.1++[bx x3 [pt bf],bx x5 [iv ((lv:Nat):Int)]],x13.2.2),rfl,⟨?_,h13.2.1,h13.2.2.more λ f hf=>List.mem_append_left _ hf⟩,hw.rI⟩
 have h13':=h13.1
 rw[<- List.append_assoc] at h13'
 exact h13'
theorem Sd(ht:t.root<=9223372036854775807)(hh:h<18446744073709551616):∀n,Hp b bf h t key n
 | 0=>Zi
 | n+1=>Xj ht hh (Sd ht hh n)
end
end

end Go.Proofs.YtnilhhnfjfdokaaGreatDoor
