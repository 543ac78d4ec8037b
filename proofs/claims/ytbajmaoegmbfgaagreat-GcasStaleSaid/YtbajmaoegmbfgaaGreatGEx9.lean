/- Merged. -/
import Derived.Test.YtbajmaoegmbfgaaGreatGEx6
set_option linter.unusedSimpArgs false
set_option linter.unusedVariables false
namespace Go.Ct
section
theorem Zu{n c:Nat}{a b d:Int}(h1:a<=n)(h2:b<=n)(h3:d<=n):lX n c {(({Nd.zero with kind:=8,bJ:=a,exp:=b,new:=d}:Nd).c [] []) with main:=0,prev:=0,status:=0}:=⟨h1,h2,h3,(λ r hr=>nomatch hr),bK _,bK _,bK _,⟨0,rfl,by decide⟩,⟨0,rfl,by decide⟩⟩
end
end Go.Ct
namespace Go.Proofs.YtbajmaoegmbfgaaGreat
open Go Go.RowKit Go.Ct
section
section
variable{k:Cl}{bx bm:Nat}{x:XS}{dn:Bool}{rs:Rs}{D:List Nat}{A:Fr}{w:World}{g:Gx}
theorem oY(hg:g.Ok)(t:dL)(i:Int)(K:Int->Tr)(ht:t.root<=9223372036854775807)(hi:i<=x.L.length)(go:gF g x (nC t i K))(ok:x.Ok)(hs:SF w D (xH k bx bm x dn rs) A [] (xW x) w):Calls Tryz.prog 177 #[.pointer (some ⟨bx,0,none⟩),N3 t,.int .i64 i] w λ e w'=>∃q:Int×XS×List aP,e=.returned (.int .i64 q.1)/\Nx g x q.2.1 q.2.2 (K q.1) q.1/\SF w D (xH k bx bm q.2.1 dn rs) [] (aM q.2.2) (xW q.2.1) w':=by
 refine enter Tryz.func177 Tryz.ntmps177 rfl rfl (cB hs) ?_
 simp only[cC]
 simp only[N3]
 refine J0 ?_;refine bM (λ x4=>?_);refine jF ?_;refine eC [(0,[]),(1,[]),(2,[]),(3,[]),(4,[]),(5,[]),(6,[1]),(7,[]),(8,[1]),(9,[]),(10,[])] ?_;refine aN ?_;refine Ka9 ?_;refine iL ?_;refine bB (i:=6) (hq:=(cM (hs:=xH k bx bm x dn rs) (os:=xW x) (hc:=λ w hs=>cG i _ hi go ok hs))) (h:=λ x13 h13=>?_);refine lC ?_;refine bB (i:=8) (hq:=(cM (hs:=xH k bx bm x dn rs) (os:=xW x) (hc:=λ w hs=>pZ hg (aB x.L i).nd.main _ (h13.2.i64 ok.lL ok.lc).2.2.2.1 h13.1 ok hs))) (h:=λ x15 h15=>?_);refine bB (i:=9) (hq:=(cM (hs:=xH k bx bm x15.2 dn rs) (os:=xW x15.2) (hc:=λ w hs=>Q5 hg t i x15.1 _ ht (by have:=h15.len;omega) h15.bd h15.go h15.ok hs))) (h:=λ x16 h16=>?_);refine J7 ?_
 refine aR Tryz.results177 (λ w hw=>?_)
 exact⟨x16,rfl,h15.trans h16,by rw[List.append_nil] at hw;exact hw.v4⟩
theorem Og(hg:g.Ok)(t:dL)(v:Int)(K:Tr)(ht:t.root<=9223372036854775807)(hv:v<=x.L.length)(go:gF g x (xY t v K))(ok:x.Ok)(hs:SF w D (xH k bx bm x dn rs) A [] (xW x) w):Calls Tryz.prog 213 #[.pointer (some ⟨bx,0,none⟩),N3 t,.int .i64 v] w λ e w'=>∃q:XS×List aP,e=.returned (.tuple #[])/\Nx g x q.1 q.2 K 0/\SF w D (xH k bx bm q.1 dn rs) [] (aM q.2) (xW q.1) w':=by
 refine enter Tryz.func213 Tryz.ntmps213 rfl rfl (cB hs) ?_
 simp only[cC]
 simp only[N3]
 refine J0 ?_;refine bM (λ x4=>?_);refine aH ?_;refine Hg ?_;refine aV ?_;refine eC [(0,[]),(1,[]),(2,[]),(3,[]),(7,[]),(8,[]),(4,[1]),(5,[]),(6,[]),(9,[]),(10,[]),(11,[])] ?_;refine aN ?_;refine Ka9 ?_;refine iL ?_;refine bB (i:=4) (hq:=(cM (hs:=xH k bx bm x dn rs) (os:=xW x) (hc:=λ w hs=>cG v _ hv go ok hs))) (h:=λ x11 h11=>?_);refine lC ?_;refine bB (i:=6) (hq:=(cM (hs:=xH k bx bm x dn rs) (os:=xW x) (hc:=λ w hs=>oY hg t (aB x.L v).nd.bJ _ ht h11.2.bJ h11.1 ok hs))) (h:=λ x13 h13=>?_);refine bB (i:=9) (hq:=(cM (hs:=xH k bx bm x13.2.1 dn rs) (os:=xW x13.2.1) (hc:=λ w hs=>cG v _ (by have:=h13.len;omega) h13.go h13.ok hs))) (h:=λ x16 h16=>?_);refine lC ?_;refine nE ?_;refine eL ?_
 refine bC (λ c18=>?_) (λ c18=>?_)
 ·have gx:gF g x13.2.1 (.node v λ n3=>.jE n3.status 0 1 λ _=>K):=h16.1.to (λ _=>by rw[show x13.1=(aB x13.2.1.L v).c.exp from c18];simp only[if_true])
  have h2e:(1:Int)<=x13.2.1.L.length:=by have:=h13.ok.two;omega
  refine dM ?_;refine J1 ?_;refine zG ?_;refine pK ?_;refine aD (cM (hs:=xH k bx bm x13.2.1 dn rs) (os:=xW x13.2.1) (hc:=λ w hs=>cG v _ (by have:=h13.len;omega) gx h13.ok hs)) (λ x22 h22=>?_);refine cE ?_;refine aA ?_;(refine aQ (by exact cM (hs:=xH k bx bm x13.2.1 dn rs) (os:=xW x13.2.1) (hc:=λ w hs=>wB hg (aB x13.2.1.L v).nd.status 0 1 _ (h22.2.i64 h13.ok.lL h13.ok.lc).2.2.2.2.2 h2e h22.1 h13.ok hs)) (λ x25=>?_);try (refine fD (λ h25=>?_)));refine aH ?_
  refine Cq Tryz.results213 (λ w hw=>?_)
  rw[List.append_nil] at hw
  exact⟨(x25.2,x13.2.2),rfl,(h13.trans h25).ext' h25.go (bK _),hw.v4⟩
 ·have gx:gF g x13.2.1 (.node v λ n3=>.jE n3.status 0 2 λ _=>K):=h16.1.to (λ _=>by simp only[if_neg (show ¬x13.1=(aB x13.2.1.L v).c.exp from c18)])
  have h2e:(2:Int)<=x13.2.1.L.length:=by have:=h13.ok.two;omega
  refine aZ ?_;refine zG ?_;refine pK ?_;refine aD (cM (hs:=xH k bx bm x13.2.1 dn rs) (os:=xW x13.2.1) (hc:=λ w hs=>cG v _ (by have:=h13.len;omega) gx h13.ok hs)) (λ x22 h22=>?_);refine cE ?_;refine aA ?_;(refine aQ (by exact cM (hs:=xH k bx bm x13.2.1 dn rs) (os:=xW x13.2.1) (hc:=λ w hs=>wB hg (aB x13.2.1.L v).nd.status 0 2 _ (h22.2.i64 h13.ok.lL h13.ok.lc).2.2.2.2.2 h2e h22.1 h13.ok hs)) (λ x25=>?_);try (refine fD (λ h25=>?_)));refine aH ?_
  refine Cq Tryz.results213 (λ w hw=>?_)
  rw[List.append_nil] at hw
  exact⟨(x25.2,x13.2.2),rfl,(h13.trans h25).ext' h25.go (bK _),hw.v4⟩
theorem Bf(hg:g.Ok)(t:dL)(K:Int->Tr)(ht:t.root<=9223372036854775807)(go:gF g x (uK t K))(ok:x.Ok)(hs:SF w D (xH k bx bm x dn rs) A [] (xW x) w):Calls Tryz.prog 179 #[.pointer (some ⟨bx,0,none⟩),N3 t] w λ e w'=>∃q:Int×XS×List aP,e=.returned (.int .i64 q.1)/\Nx g x q.2.1 q.2.2 (K q.1) q.1/\SF w D (xH k bx bm q.2.1 dn rs) [] (aM q.2.2) (xW q.2.1) w':=by
 refine enter Tryz.func179 Tryz.ntmps179 rfl rfl (cB hs) ?_
 simp only[cC]
 simp only[N3]
 refine J0 ?_;refine bM (λ x3=>?_);refine Ka5 ?_;refine J3 ?_;refine aD (cM (hs:=xH k bx bm x dn rs) (os:=xW x) (hc:=λ w hs=>pZ hg t.root _ ht go ok hs)) (λ x11 h11=>?_);refine jF ?_;refine mD ?_;refine aA ?_
 (refine eJ 16 (λ g16=>?_) (λ g16=>?_)<;>refine Ka0 ?_)
 all_goals (refine Ka0 ?_;(first|refine aI ?_|(refine aE ?_;refine aD (cM (hs:=xH k bx bm x11.2 dn rs) (os:=xW x11.2) (hc:=λ w hs=>cG x11.1 _ h11.bd h11.go h11.ok hs)) (λ x19 h19=>?_)));refine J87 ?_;refine aH ?_)
 all_goals
 refine bC (λ c22=>?_) (λ c22=>?_)
 ·all_goals (refine Ka4 ?_)
  all_goals
   refine aR Tryz.results179 (λ w hw=>?_)
   exact⟨(x11.1,x11.2,[]),rfl,h11.cH (by first|exact h11.go.bX (by assumption)|exact h19.1.to (λ _=>if_pos (by assumption))) h11.bd,hw.aX (hF:=by exact aY.nil)⟩
 ·try exact nv c22
  all_goals
   have g1:=h19.1.to (λ _=>if_neg c22)
   have hb1:=h19.2.i64 h11.ok.lL h11.ok.lc
  all_goals (refine Dc ?_;refine aA ?_;refine aD (cM (hs:=xH k bx bm x11.2 dn rs) (os:=xW x11.2) (hc:=λ w hs=>cG x11.1 _ h11.bd g1 h11.ok hs)) (λ x27 h27=>?_);refine cE ?_;refine aD (cM (hs:=xH k bx bm x11.2 dn rs) (os:=xW x11.2) (hc:=λ w hs=>pZ hg (aB x11.2.L x11.1).nd.status _ hb1.2.2.2.2.2 h27.1 h11.ok hs)) (λ x29 h29=>?_);refine jF ?_)
  all_goals
   refine eO [6,30,31,32,33,34,35,36,37,38,39,40,41] (λ q:Int×XS×List aP=>[(6,.int .i64 q.1)]) (λ q=>Nx g x q.2.1 q.2.2 (uL t x11.1 q.1 K) 0/\x11.1<=q.2.1.L.length) (λ q=>[(x3,.cells ⟨[.int .i64 t.root,.bool t.ro]⟩ 29 (0,0)),(bx,xO k bm q.2.1 dn rs),(bm,xM q.2.1)]) (λ q=>aM q.2.2) (λ q=>xW q.2.1) (by decide) (λ _=>by exact rfl) ?_ (λ q f hx=>?_)
   ·refine aV ?_
    refine zG ?_;refine uI ?_
    refine bC (λ c31=>?_) (λ c31=>?_)
    ·have g2:=h29.go.to (λ _=>if_pos c31)
     have hv2:x11.1<=x29.2.L.length:=by have:=h29.len;have:=h11.bd;omega
     refine Kb3 ?_;refine aA ?_;refine aD (cM (hs:=xH k bx bm x29.2 dn rs) (os:=xW x29.2) (hc:=λ w hs=>Og hg t x11.1 _ ht hv2 g2 h29.ok hs)) (λ x35 h35=>?_);refine aH ?_;refine zG ?_;refine pK ?_;refine aD (cM (hs:=xH k bx bm x35.1 dn rs) (os:=xW x35.1) (hc:=λ w hs=>cG x11.1 _ (by have:=h35.len;omega) h35.go h35.ok hs)) (λ x39 h39=>?_);refine cE ?_;refine aD (cM (hs:=xH k bx bm x35.1 dn rs) (os:=xW x35.1) (hc:=λ w hs=>pZ hg (aB x35.1.L x11.1).nd.status _ (h39.2.i64 h35.ok.lL h35.ok.lc).2.2.2.2.2 h39.1 h35.ok hs)) (λ x41 h41=>?_);refine J1 ?_
     refine fH ((x41.1,x41.2,x35.2)) ?_ (hw1:=λ w hw=>by rw[List.append_nil] at hw;exact hw.v6)
     ·exact⟨((h11.trans h29).trans (h35.trans h41)).ext' h41.go (bK _),(show x11.1<=(x41.2.L.length:Int) by have:=h35.len;have:=h41.len;omega)⟩
    ·have g2:=h29.go.to (λ _=>if_neg c31)
     have hv2:x11.1<=x29.2.L.length:=by have:=h29.len;have:=h11.bd;omega
     refine aZ ?_
     refine fH ((x29.1,x29.2,[])) ?_ (hw1:=λ w hw=>hw.back (hF:=by exact aY.nil))
     ·exact⟨(h11.trans h29).cH g2 (bK _),hv2⟩
   dsimp only[hY,List.map,List.cons_append,List.nil_append]
  all_goals (refine Kc2 ?_;refine aD (cM (hs:=xH k bx bm q.2.1 dn rs) (os:=xW q.2.1) (hc:=λ w hs=>Gs x11.1 q.1 _ hx.2 hx.1.go hx.1.ok hs)) (λ x45 h45=>?_);refine Ka5 ?_;refine J3 ?_;refine pK ?_;refine aD (cM (hs:=xH k bx bm q.2.1 dn rs) (os:=xW q.2.1) (hc:=λ w hs=>wB hg t.root x11.1 x45 _ ht h45.2 h45.1 hx.1.ok hs)) (λ x51 h51=>?_);refine aH ?_;refine Ka4 ?_)
  all_goals
   refine aR Tryz.results179 (λ w hw=>?_)
   exact⟨(x45,x51.2,q.2.2),rfl,(hx.1.trans h51).ext' h51.go (by have:=h51.len;have:=h45.2;omega),hw.v4⟩
theorem tB(hg:g.Ok)(t:dL)(i bJ n:Int)(K:Bool->Tr)(ht:t.root<=9223372036854775807)(hi:i<=x.L.length)(hn:n<=x.L.length)(go:gF g x (jT t i bJ n K))(ok:x.Ok)(hs:SF w D (xH k bx bm x dn rs) A [] (xW x) w):Calls Tryz.prog 178 #[.pointer (some ⟨bx,0,none⟩),N3 t,.int .i64 i,.int .i64 bJ,.int .i64 n] w λ e w'=>∃q:Bool×XS×List aP,e=.returned (.bool q.1)/\Nx g x q.2.1 q.2.2 (K q.1) 0/\SF w D (xH k bx bm q.2.1 dn rs) [] (aM q.2.2) (xW q.2.1) w':=by
 refine enter Tryz.func178 Tryz.ntmps178 rfl rfl (cB hs) ?_
 simp only[cC]
 simp only[N3]
 refine J0 ?_;refine bM (λ x6=>?_);refine jF ?_;refine Kc2 ?_;refine aD (cM (hs:=xH k bx bm x dn rs) (os:=xW x) (hc:=λ w hs=>cG i _ hi go ok hs)) (λ x15 h15=>?_);refine cE ?_;refine pK ?_;refine aD (cM (hs:=xH k bx bm x dn rs) (os:=xW x) (hc:=λ w hs=>wB hg (aB x.L i).nd.main bJ n _ (h15.2.i64 ok.lL ok.lc).2.2.2.1 hn h15.1 ok hs)) (λ x19 h19=>?_);refine oV ?_
 refine bC (λ c20=>?_) (λ c20=>?_)
 ·refine cX ?_
  refine aR Tryz.results178 (λ w hw=>?_)
  exact⟨(false,x19.2,[]),rfl,h19.cH (h19.go.to (λ _=>if_neg (by simpa using c20))) (bK _),hw.aX (hF:=by exact aY.nil)⟩
 ·have g1:=h19.go.to (λ _=>if_pos (by simpa using c20))
  have hl19:=h19.len
  refine aZ ?_;refine Kb3 ?_;refine pK ?_;refine aD (cM (hs:=xH k bx bm x19.2 dn rs) (os:=xW x19.2) (hc:=λ w hs=>Q5 hg t i n _ ht (by omega) (by omega) g1 h19.ok hs)) (λ x25 h25=>?_);refine J1 ?_;refine mD ?_;refine Dg ?_
  (refine eJ 31 (λ g31=>?_) (λ g31=>?_)<;>refine Ka0 ?_)
  all_goals (refine Ka0 ?_;refine wX ?_;refine J1 ?_)
  all_goals
  refine aR Tryz.results178 (λ w hw=>?_)
  rw[List.append_nil] at hw
  first
   | exact⟨(x25.1==n,x25.2.1,x25.2.2),rfl,(h19.trans h25).cH h25.go (bK _),hw.v4⟩
   | exact⟨(false,x25.2.1,x25.2.2),rfl,(h19.trans h25).cH (h25.go.bX (by assumption)) (bK _),hw.v4⟩
end
end
end Go.Proofs.YtbajmaoegmbfgaaGreat
namespace Go.Ct
open Go Go.RowKit
section
theorem Ch.to{g:Gx}{x0 x X:XS}{F:Fr}{N:List aP}{t t':Tr}{b b':Int}(h:Ch x0 X F)(h2:Nx g x X N t b)(go:gF g X t')(hc:x0.cs.length<=X.cs.length)(hb:b'<=X.L.length):∃N,Nx g x0 X N t' b'/\∀f∈aM N,f.2=[]∨f∈F:=by
 obtain⟨N,h3,h4⟩:=h
 exact⟨N,⟨go,h2.ok,h3,hc,hb⟩,h4⟩
theorem XS.Ok.sA{w0 w:World}{M:List Nat}{H:List (Nat×Obj)}{A F:Fr}{O:List Ow}{x:XS}(ok:x.Ok)(h:SF w0 M H A F O w)(hA:∀f∈aM x.L,f∈A)(r:Int):rY w (aB x.L r).nd (aB x.L r).xs (aB x.L r).ys:=h.bg (Ch.base (F:=F)) hA ok r
end
end Go.Ct
namespace Go.Proofs.YtbajmaoegmbfgaaGreat
open Go.Proofs.Tryz (prog)
open Go Go.RowKit Go.Ct
section
structure vV(n:Nat)(o:Option (Nat×List Int)):Prop where
 out:∀q,o=some q->q.1<18446744073709551616/\q.2.length<=64/\∀r∈q.2,r<=n
theorem mb{b:Nat}{xs:List Int}(h:BV b xs):xs.length<=64:=by rw[h.len];exact zE b 64
theorem qb{xs:List Int}{p:Nat}{r v:Int}(h:v∈qT xs p r):v∈xs∨v=r:=by
 unfold qT at h
 rcases List.mem_append.1 h with h|h
 ·exact .inl (List.mem_of_mem_take h)
 ·rcases List.mem_cons.1 h with h|h
  ·exact .inr h
  ·exact .inl (List.mem_of_mem_drop h)
theorem qa{xs:List Int}{p:Nat}{r v:Int}(h:v∈wI xs p r):v∈xs∨v=r:=by
 unfold wI at h
 rcases List.mem_append.1 h with h|h
 ·exact .inl (List.mem_of_mem_take h)
 ·rcases List.mem_cons.1 h with h|h
  ·exact .inr h
  ·exact .inl (List.mem_of_mem_drop h)
theorem q9{xs:List Int}{p:Nat}{v:Int}(h:v∈sG xs p):v∈xs:=by
 unfold sG at h
 rcases List.mem_append.1 h with h|h
 ·exact List.mem_of_mem_take h
 ·exact List.mem_of_mem_drop h
section
variable{n:Nd}{xs:List Int}{ys:List Pr}{b m:Nat}
theorem su(hb:n.bm=(b:Int))(hb2:b<18446744073709551616)(hx:∀r∈xs,r<=m){r:Int}(hr:r<=m)(i:Int):vV m (oa n xs ys b i r):=⟨λ q hq=>by
 unfold oa at hq
 split at hq
 ·rename_i h
  cases hq
  obtain⟨h1,h2,h3⟩:=h
  have hv:=h1.bv hb hb2
  obtain⟨e1,e2,e3,e4⟩:=sJ h3
  have:=(S4 hv (i:=i.toNat) (by omega) e3 h2).1
  rw[<- e4] at this
  exact⟨this.lt,mb this,λ v hv=>(qb hv).elim (hx v) (λ e=>e▸hr)⟩
 ·cases hq⟩
theorem tu(hb:n.bm=(b:Int))(hb2:b<18446744073709551616)(hx:∀r∈xs,r<=m){r:Int}(hr:r<=m)(i:Int):vV m (n6 n xs ys b i r):=⟨λ q hq=>by
 unfold n6 at hq
 split at hq
 ·rename_i h
  cases hq
  obtain⟨h1,h0,h2,h3⟩:=h
  have hv:=h1.bv hb hb2
  have e:i=((i.toNat:Nat):Int):=by omega
  have hk:i.toNat<64:=by omega
  rw[e] at h3 ⊢
  rw[qP b hk] at h3
  have:=(Ge hv (i:=i.toNat) hk h3 h2).1
  rw[pM b hk,oF b hk]
  exact⟨this.lt,mb this,λ v hv=>(qa hv).elim (hx v) (λ e=>e▸hr)⟩
 ·cases hq⟩
theorem sk(hb:n.bm=(b:Int))(hb2:b<18446744073709551616)(hx:∀r∈xs,r<=m)(i:Int):vV m (ob n xs ys b i):=⟨λ q hq=>by
 unfold ob at hq
 split at hq
 ·rename_i h
  cases hq
  obtain⟨h1,h3⟩:=h
  have hv:=h1.bv hb hb2
  obtain⟨e1,e2,e3,e4⟩:=sJ h3
  have hk:i.toNat<64:=by omega
  have:=(R4 hv (i:=i.toNat) hk e3).1
  have e:i=((i.toNat:Nat):Int):=by omega
  rw[e,tG b hk,oF b hk]
  exact⟨this.lt,mb this,λ v hv=>hx v (q9 hv)⟩
 ·cases hq⟩
end
theorem vV.nvB{m c:Nat}{o:Option (Nat×List Int)}(h:vV m o)(x:Option Addr×Nat):lX m c {(mY o x).c (mP o) [] with main:=0,prev:=0,status:=0}:=by
 rw[Hu]
 cases o with
 | none=>exact⟨bK _,bK _,bK _,(λ r hr=>nomatch hr),bK _,bK _,bK _,⟨0,rfl,by decide⟩,⟨0,rfl,by decide⟩⟩
 | some q =>
  have h1:=h.out q rfl
  exact⟨bK _,bK _,bK _,h1.2.2,bK _,bK _,bK _,⟨q.1,rfl,h1.1⟩,⟨0,rfl,by decide⟩⟩
theorem vV.len{m:Nat}{o:Option (Nat×List Int)}(h:vV m o):(mP o).length<=274877906944:=by
 cases o with
 | none=>exact Nat.zero_le _
 | some q=>exact Nat.le_trans (h.out q rfl).2.1 (by decide)
theorem Ek(o:Option (Nat×List Int))(x:Option Addr×Nat):(mY o x).brN=(mP o).length:=by cases o<;>rfl
theorem Eo(o:Option (Nat×List Int))(x:Option Addr×Nat):(mY o x).prN=([]:List Pr).length:=by cases o<;>rfl
theorem Sd{A F:Fr}{O:List Ow}{o:Option (Nat×List Int)}{x:Option Addr×Nat}:bG A ((x.1,aG (mP o))::F) O [((mY o x).brA,aG (mP o)),((mY o x).prA,cY [])]:=by
 cases o with
 | none=>exact .cons (.inl rfl) (.cons (.inl rfl) .nil)
 | some q=>exact .cons (.inr (.inr (.inl (.head _)))) (.cons (.inl rfl) .nil)
section
variable{v:aP}{n c:Nat}{w:World}
theorem fA(h:lX n c v.c):v.nd.bm=((v.c.bm.toNat:Nat):Int)/\v.c.bm.toNat<18446744073709551616:=by
 obtain⟨b,h1,h2⟩:=h.bm
 have h3:v.nd.bm=(b:Int):=h1
 have h4:v.c.bm=(b:Int):=h1
 rw[h3,h4]
 exact⟨by simp,by simpa using h2⟩
theorem Ko(h:lX n c v.c)(i:Int)(hr:rY w v.nd v.xs v.ys):Calls prog 216 #[v.nd.v,.int .i64 i] w λ e w'=>e=.returned (.tuple #[.int .i64 ((lA v.c i).getD 0),.bool (lA v.c i).isSome])/\St w [] [] w':=by
 have h1:=fA h
 have:=oE (n:=v.nd) i h1.1 h1.2 hr
 rw[aBM h1.1 i] at this
 exact this
theorem pV(h:lX n c v.c)(i:Int):(lA v.c i).getD 0<=n:=by
 have h1:=fA h
 have e:=aBM (xs:=v.xs) (ys:=v.ys) h1.1 i
 rw[show lA v.c i=lA (v.nd.c v.xs v.ys) i from rfl,<- e]
 unfold L5
 split
 ·exact mM h.br _
 ·exact bK _
noncomputable abbrev Rt (v:aP) (i r:Int):Option (Nat×List Int):=oa v.nd v.xs v.ys v.c.bm.toNat i r
noncomputable abbrev Zl (v:aP) (i r:Int):Option (Nat×List Int):=n6 v.nd v.xs v.ys v.c.bm.toNat i r
noncomputable abbrev dr (v:aP) (i:Int):Option (Nat×List Int):=ob v.nd v.xs v.ys v.c.bm.toNat i
theorem aAT(h:lX n c v.c)(i r:Int)(x:Option Addr×Nat):Tn v.c i r=(mY (Rt v i r) x).c (mP (Rt v i r)) []:=by
 rw[Hu]
 exact(aB0 (fA h).1 i r).symm
theorem aBg(h:lX n c v.c)(i r:Int)(x:Option Addr×Nat):xn v.c i r=(mY (Zl v i r) x).c (mP (Zl v i r)) []:=by
 rw[Hu]
 exact(aCy (fA h).1 i r).symm
theorem vr(h:lX n c v.c)(i:Int)(x:Option Addr×Nat):Ny v.c i=(mY (dr v i) x).c (mP (dr v i)) []:=by
 rw[Hu]
 exact(aBq (fA h).1 i).symm
theorem vl(h:lX n c v.c)(i r:Int)(hr:rY w v.nd v.xs v.ys):Calls prog 220 #[v.nd.v,.int .i64 i,.int .i64 r] w (Ya w (Rt v i r)):=L3 (n:=v.nd) i r (fA h).1 (fA h).2 hr
theorem Z2(h:lX n c v.c)(i r:Int)(hr:rY w v.nd v.xs v.ys):Calls prog 249 #[v.nd.v,.int .i64 i,.int .i64 r] w (Ya w (Zl v i r)):=I4 (n:=v.nd) i r (fA h).1 (fA h).2 hr
theorem aBm(h:lX n c v.c)(i:Int)(hr:rY w v.nd v.xs v.ys):Calls prog 252 #[v.nd.v,.int .i64 i] w (Ya w (dr v i)):=Nj (n:=v.nd) i (fA h).1 (fA h).2 hr
theorem mq(h:lX n c v.c){r:Int}(hr:r<=n)(i:Int):vV n (Rt v i r):=su (fA h).1 (fA h).2 h.br hr i
theorem aBL(h:lX n c v.c){r:Int}(hr:r<=n)(i:Int):vV n (Zl v i r):=tu (fA h).1 (fA h).2 h.br hr i
theorem aBf(h:lX n c v.c)(i:Int):vV n (dr v i):=sk (fA h).1 (fA h).2 h.br i
end
theorem sB{n c:Nat}{g:Int}:lX n c {(({Nd.zero with kind:=2,gen:=g}:Nd).c [] []) with main:=0,prev:=0,status:=0}:=⟨bK _,bK _,bK _,(λ r hr=>nomatch hr),bK _,bK _,bK _,⟨0,rfl,by decide⟩,⟨0,rfl,by decide⟩⟩
section
variable{k:Cl}{bx bm:Nat}{x:XS}{dn:Bool}{rs:Rs}{D:List Nat}{A:Fr}{w:World}{g:Gx}
theorem Mj(hg:g.Ok)(t:dL)(o ex n:Int)(K:Bool->Tr)(ht:t.root<=9223372036854775807)(ho:o<=x.L.length)(he:ex<=x.L.length)(hn:n<=x.L.length)(go:gF g x (vR t o ex n K))(ok:x.Ok)(hs:SF w D (xH k bx bm x dn rs) A [] (xW x) w):Calls prog 180 #[.pointer (some ⟨bx,0,none⟩),N3 t,.int .i64 o,.int .i64 ex,.int .i64 n] w λ e w'=>∃q:Bool×XS×List aP,e=.returned (.bool q.1)/\Nx g x q.2.1 q.2.2 (K q.1) 0/\SF w D (xH k bx bm q.2.1 dn rs) [] (aM q.2.2) (xW q.2.1) w':=by
 refine enter Tryz.func180 Tryz.ntmps180 rfl rfl (cB hs) ?_
 simp only[cC]
 simp only[N3]
 refine J0 ?_;refine bM (λ x6=>?_);refine zS ?_;refine pK ?_;refine bN ?_;refine aD (cM (hs:=xH k bx bm x dn rs) (os:=xW x) (A0:=[(none,aG []),(none,cY [])]) (hc:=λ w hs=>gV hg (n:={Nd.zero with kind:=8,bJ:=o,exp:=ex,new:=n}) (xs:=[]) (ys:=[]) 0 _ rfl rfl (by decide) (Nat.zero_le _) (Zu ho he hn) (bK _) go ok hs)) (λ x18 h18=>?_);refine jF ?_;refine J2 ?_;refine J3 ?_;refine pK ?_;refine aD (cM (hs:=xH k bx bm x18.2.1 dn rs) (os:=xW x18.2.1) (hc:=λ w hs=>wB hg t.root o x18.1 _ ht h18.bd h18.go h18.ok hs)) (λ x24 h24=>?_);refine oV ?_
 refine bC (λ c25=>?_) (λ c25=>?_)
 ·refine cX ?_
  refine aR Tryz.results180 (λ w hw=>?_)
  obtain⟨N,hN,hf⟩:=(Ch.base (F:=[])).nx h18 |>.nx0 h24 |>.to h24 (h24.go.to (λ _=>if_neg (by simpa using c25))) (by have:=h18.lc;have:=h24.lc;omega) (bK _)
  exact⟨(false,x24.2,N),rfl,hN,(hw.eW hf).v4⟩
 ·have g1:=h24.go.to (λ _=>if_pos (by simpa using c25))
  have hl24:=h24.len
  have hb18:=h18.bd
  refine aZ ?_;refine Kb3 ?_;refine aA ?_;refine aD (cM (hs:=xH k bx bm x24.2 dn rs) (os:=xW x24.2) (hc:=λ w hs=>Og hg t x18.1 _ ht (by omega) g1 h24.ok hs)) (λ x29 h29=>?_);refine aH ?_;refine Kc2 ?_;refine aD (cM (hs:=xH k bx bm x29.1 dn rs) (os:=xW x29.1) (hc:=λ w hs=>cG x18.1 _ (by have:=h29.len;omega) h29.go h29.ok hs)) (λ x33 h33=>?_);refine cE ?_;refine aD (cM (hs:=xH k bx bm x29.1 dn rs) (os:=xW x29.1) (hc:=λ w hs=>pZ hg (aB x29.1.L x18.1).nd.status _ (h33.2.i64 h29.ok.lL h29.ok.lc).2.2.2.2.2 h33.1 h29.ok hs)) (λ x35 h35=>?_);refine jF ?_;refine eC [(0,[]),(1,[]),(2,[]),(3,[]),(4,[]),(5,[]),(6,[]),(7,[2]),(8,[])] ?_;refine aN ?_;refine lH ?_;refine iL ?_;refine iL ?_;refine bB (i:=7) (hq:=(cM (hs:=xH k bx bm x35.2 dn rs) (os:=xW x35.2) (hc:=λ w hs=>Gs x18.1 x35.1 _ (by have:=h29.len;have:=h35.len;omega) h35.go h35.ok hs))) (h:=λ x43 h43=>?_);refine bB (i:=8) (hq:=(cM (hs:=xH k bx bm x35.2 dn rs) (os:=xW x35.2) (hc:=λ w hs=>wB hg t.root x18.1 x43 _ ht h43.2 h43.1 h35.ok hs))) (h:=λ x44 h44=>?_);refine eL ?_;refine mD ?_;refine Dg ?_
  (refine eJ 50 (λ g50=>?_) (λ g50=>?_)<;>refine Ka0 ?_)
  all_goals (refine wX ?_;refine J1 ?_)
  all_goals
  refine aR Tryz.results180 (λ w hw=>?_)
  first
   | (obtain⟨N,hN,hf⟩:=(Ch.nx h29 ((Ch.base (F:=[])).nx h18 |>.nx0 h24)) |>.nx0 h35 |>.nx0 h44 |>.to h44 h44.go (by have:=h18.lc;have:=h24.lc;have:=h29.lc;have:=h35.lc;have:=h44.lc;omega) (bK _);exact⟨(x35.1==1,x44.2,N),rfl,hN,(hw.eW hf).v4⟩)
   | (obtain⟨N,hN,hf⟩:=(Ch.nx h29 ((Ch.base (F:=[])).nx h18 |>.nx0 h24)) |>.nx0 h35 |>.nx0 h44 |>.to (t':=K false) h44 (h44.go.bX (by assumption)) (by have:=h18.lc;have:=h24.lc;have:=h29.lc;have:=h35.lc;have:=h44.lc;omega) (bK _);exact⟨(false,x44.2,N),rfl,hN,(hw.eW hf).v4⟩)
theorem B8(hg:g.Ok)(c index r:Int)(K:Int->Tr)(hc:c<=x.L.length)(hr:r<=x.L.length)(hA:∀f∈aM x.L,f∈A)(go:gF g x (Fo c index r K))(ok:x.Ok)(hs:SF w D (xH k bx bm x dn rs) A [] (xW x) w):Calls prog 217 #[.pointer (some ⟨bx,0,none⟩),.int .i64 c,.int .i64 index,.int .i64 r] w λ e w'=>∃q:Int×XS×List aP,e=.returned (.int .i64 q.1)/\Nx g x q.2.1 q.2.2 (K q.1) q.1/\SF w D (xH k bx bm q.2.1 dn rs) [] (aM q.2.2) (xW q.2.1) w':=by
 refine enter Tryz.func217 Tryz.ntmps217 rfl rfl (cB hs) ?_
 simp only[cC]
 refine cX ?_;refine jG ?_;refine aD (cM (hs:=xH k bx bm x dn rs) (os:=xW x) (hc:=λ w hs=>cG c _ hc go ok hs)) (λ x14 h14=>?_);refine pK ?_;refine aD (cF (hc:=λ w1 hw=>vl (v:=aB x.L c) (ok.nv c) index r (ok.sA hw hA c))) (λ x17 h17=>?_);refine N0 ?_;refine aK (λ x9=>?_);refine Br ?_;refine Kb3 ?_;refine aA ?_;refine aD (cM (hs:=xH k bx bm x dn rs) (os:=xW x) (A0:=[((mY (Rt (aB x.L c) index r) x17).brA,aG (mP (Rt (aB x.L c) index r))),((mY (Rt (aB x.L c) index r) x17).prA,cY [])]) (hA:=Sd) (hc:=λ w hs=>gV hg (n:=mY (Rt (aB x.L c) index r) x17) (xs:=mP (Rt (aB x.L c) index r)) (ys:=[]) c _ (Ek _ _) (Eo _ _) (mq (ok.nv c) hr index).len (Nat.zero_le _) ((mq (ok.nv c) hr index).nvB _) hc (by rw[<- aAT (ok.nv c)];exact h14.1) ok hs)) (λ x23 h23=>?_);refine J1 ?_
 refine aR Tryz.results217 (λ w hw=>?_)
 exact⟨x23,rfl,h23,hw.aX (hF:=by exact aY.jH λ f hf=>List.mem_append_left _ hf)⟩
end
end
end Go.Proofs.YtbajmaoegmbfgaaGreat
