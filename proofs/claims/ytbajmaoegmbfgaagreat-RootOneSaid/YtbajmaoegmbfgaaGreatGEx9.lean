/- Merged. -/
import Derived.Test.YtbajmaoegmbfgaaGreatGEx6
set_option linter.unusedSimpArgs false
set_option linter.unusedVariables false
namespace Go.Ct
section
theorem eu{n c:Nat}{a b d:Int}(h1:a<=n)(h2:b<=n)(h3:d<=n):lX n c {(({Nd.zero with kind:=8,bA:=a,exp:=b,new:=d}:Nd).c [] []) with main:=0,prev:=0,status:=0}:=⟨h1,h2,h3,(λ r hr=>nomatch hr),bH _,bH _,bH _,⟨0,rfl,by decide⟩,⟨0,rfl,by decide⟩⟩
end
end Go.Ct
namespace Go.Proofs.YtbajmaoegmbfgaaGreat
open Go Go.RowKit Go.Ct
section
section
variable{k:Cl}{bx bm:Nat}{x:XS}{dn:Bool}{rs:Rs}{D:List Nat}{A:Fr}{w:World}{g:Gx}
theorem oU(hg:g.Ok)(t:dO)(i:Int)(K:Int->Tr)(ht:t.root<=9223372036854775807)(hi:i<=x.L.length)(go:fS g x (mJ t i K))(ok:x.Ok)(hs:SF w D (xH k bx bm x dn rs) A [] (xW x) w):Calls Tryz.prog 177 #[.pointer (some ⟨bx,0,none⟩),M0 t,.int .i64 i] w λ e w'=>∃q:Int×XS×List aU,e=.returned (.int .i64 q.1)/\Nx g x q.2.1 q.2.2 (K q.1) q.1/\SF w D (xH k bx bm q.2.1 dn rs) [] (aL q.2.2) (xW q.2.1) w':=by
 refine enter Tryz.func177 Tryz.ntmps177 rfl rfl (cH hs) ?_
 simp only[cE]
 simp only[M0]
 refine J0 ?_;refine bN (λ x4=>?_);refine iW ?_;refine eQ [(0,[]),(1,[]),(2,[]),(3,[]),(4,[]),(5,[]),(6,[1]),(7,[]),(8,[1]),(9,[]),(10,[])] ?_;refine bC ?_;refine Ka9 ?_;refine hU ?_;refine bG (i:=6) (hq:=(cM (hs:=xH k bx bm x dn rs) (os:=xW x) (hc:=λ w hs=>cJ i _ hi go ok hs))) (h:=λ x13 h13=>?_);refine qT ?_;refine bG (i:=8) (hq:=(cM (hs:=xH k bx bm x dn rs) (os:=xW x) (hc:=λ w hs=>qC hg (aD x.L i).nd.main _ (h13.2.i64 ok.lL ok.lc).2.2.2.1 h13.1 ok hs))) (h:=λ x15 h15=>?_);refine bG (i:=9) (hq:=(cM (hs:=xH k bx bm x15.2 dn rs) (os:=xW x15.2) (hc:=λ w hs=>Px hg t i x15.1 _ ht (by have:=h15.len;omega) h15.bd h15.go h15.ok hs))) (h:=λ x16 h16=>?_);refine J7 ?_
 refine aN Tryz.results177 (λ w hw=>?_)
 exact⟨x16,rfl,h15.trans h16,by rw[List.append_nil] at hw;exact hw.v4⟩
theorem Ql(hg:g.Ok)(t:dO)(v:Int)(K:Tr)(ht:t.root<=9223372036854775807)(hv:v<=x.L.length)(go:fS g x (jN t v K))(ok:x.Ok)(hs:SF w D (xH k bx bm x dn rs) A [] (xW x) w):Calls Tryz.prog 213 #[.pointer (some ⟨bx,0,none⟩),M0 t,.int .i64 v] w λ e w'=>∃q:XS×List aU,e=.returned (.tuple #[])/\Nx g x q.1 q.2 K 0/\SF w D (xH k bx bm q.1 dn rs) [] (aL q.2) (xW q.1) w':=by
 refine enter Tryz.func213 Tryz.ntmps213 rfl rfl (cH hs) ?_
 simp only[cE]
 simp only[M0]
 refine J0 ?_;refine bN (λ x4=>?_);refine aG ?_;refine Er ?_;refine aR ?_;refine eQ [(0,[]),(1,[]),(2,[]),(3,[]),(7,[]),(8,[]),(4,[1]),(5,[]),(6,[]),(9,[]),(10,[]),(11,[])] ?_;refine bC ?_;refine Ka9 ?_;refine hU ?_;refine bG (i:=4) (hq:=(cM (hs:=xH k bx bm x dn rs) (os:=xW x) (hc:=λ w hs=>cJ v _ hv go ok hs))) (h:=λ x11 h11=>?_);refine qT ?_;refine bG (i:=6) (hq:=(cM (hs:=xH k bx bm x dn rs) (os:=xW x) (hc:=λ w hs=>oU hg t (aD x.L v).nd.bA _ ht h11.2.bA h11.1 ok hs))) (h:=λ x13 h13=>?_);refine bG (i:=9) (hq:=(cM (hs:=xH k bx bm x13.2.1 dn rs) (os:=xW x13.2.1) (hc:=λ w hs=>cJ v _ (by have:=h13.len;omega) h13.go h13.ok hs))) (h:=λ x16 h16=>?_);refine qT ?_;refine oC ?_;refine eO ?_
 refine bE (λ c18=>?_) (λ c18=>?_)
 ·have gx:fS g x13.2.1 (.node v λ n3=>.iQ n3.status 0 1 λ _=>K):=h16.1.to (λ _=>by rw[show x13.1=(aD x13.2.1.L v).c.exp from c18];simp only[if_true])
  have h2e:(1:Int)<=x13.2.1.L.length:=by have:=h13.ok.two;omega
  refine dJ ?_;refine J1 ?_;refine wZ ?_;refine qJ ?_;refine aC (cM (hs:=xH k bx bm x13.2.1 dn rs) (os:=xW x13.2.1) (hc:=λ w hs=>cJ v _ (by have:=h13.len;omega) gx h13.ok hs)) (λ x22 h22=>?_);refine cC ?_;refine aA ?_;(refine aM (by exact cM (hs:=xH k bx bm x13.2.1 dn rs) (os:=xW x13.2.1) (hc:=λ w hs=>vU hg (aD x13.2.1.L v).nd.status 0 1 _ (h22.2.i64 h13.ok.lL h13.ok.lc).2.2.2.2.2 h2e h22.1 h13.ok hs)) (λ x25=>?_);try (refine fD (λ h25=>?_)));refine aG ?_
  refine B9 Tryz.results213 (λ w hw=>?_)
  rw[List.append_nil] at hw
  exact⟨(x25.2,x13.2.2),rfl,(h13.trans h25).ext' h25.go (bH _),hw.v4⟩
 ·have gx:fS g x13.2.1 (.node v λ n3=>.iQ n3.status 0 2 λ _=>K):=h16.1.to (λ _=>by simp only[if_neg (show ¬x13.1=(aD x13.2.1.L v).c.exp from c18)])
  have h2e:(2:Int)<=x13.2.1.L.length:=by have:=h13.ok.two;omega
  refine aS ?_;refine wZ ?_;refine qJ ?_;refine aC (cM (hs:=xH k bx bm x13.2.1 dn rs) (os:=xW x13.2.1) (hc:=λ w hs=>cJ v _ (by have:=h13.len;omega) gx h13.ok hs)) (λ x22 h22=>?_);refine cC ?_;refine aA ?_;(refine aM (by exact cM (hs:=xH k bx bm x13.2.1 dn rs) (os:=xW x13.2.1) (hc:=λ w hs=>vU hg (aD x13.2.1.L v).nd.status 0 2 _ (h22.2.i64 h13.ok.lL h13.ok.lc).2.2.2.2.2 h2e h22.1 h13.ok hs)) (λ x25=>?_);try (refine fD (λ h25=>?_)));refine aG ?_
  refine B9 Tryz.results213 (λ w hw=>?_)
  rw[List.append_nil] at hw
  exact⟨(x25.2,x13.2.2),rfl,(h13.trans h25).ext' h25.go (bH _),hw.v4⟩
theorem Bs(hg:g.Ok)(t:dO)(K:Int->Tr)(ht:t.root<=9223372036854775807)(go:fS g x (kF t K))(ok:x.Ok)(hs:SF w D (xH k bx bm x dn rs) A [] (xW x) w):Calls Tryz.prog 179 #[.pointer (some ⟨bx,0,none⟩),M0 t] w λ e w'=>∃q:Int×XS×List aU,e=.returned (.int .i64 q.1)/\Nx g x q.2.1 q.2.2 (K q.1) q.1/\SF w D (xH k bx bm q.2.1 dn rs) [] (aL q.2.2) (xW q.2.1) w':=by
 refine enter Tryz.func179 Tryz.ntmps179 rfl rfl (cH hs) ?_
 simp only[cE]
 simp only[M0]
 refine J0 ?_;refine bN (λ x3=>?_);refine Ka4 ?_;refine J3 ?_;refine aC (cM (hs:=xH k bx bm x dn rs) (os:=xW x) (hc:=λ w hs=>qC hg t.root _ ht go ok hs)) (λ x11 h11=>?_);refine iW ?_;refine lQ ?_;refine aA ?_
 (refine eG 16 (λ g16=>?_) (λ g16=>?_)<;>refine Ka0 ?_)
 all_goals (refine Ka0 ?_;(first|refine aI ?_|(refine aF ?_;refine aC (cM (hs:=xH k bx bm x11.2 dn rs) (os:=xW x11.2) (hc:=λ w hs=>cJ x11.1 _ h11.bd h11.go h11.ok hs)) (λ x19 h19=>?_)));refine J87 ?_;refine aG ?_)
 all_goals
 refine bE (λ c22=>?_) (λ c22=>?_)
 ·all_goals (refine Ka5 ?_)
  all_goals
   refine aN Tryz.results179 (λ w hw=>?_)
   exact⟨(x11.1,x11.2,[]),rfl,h11.cK (by first|exact h11.go.bV (by assumption)|exact h19.1.to (λ _=>if_pos (by assumption))) h11.bd,hw.aX (hF:=by exact aV.nil)⟩
 ·try exact nv c22
  all_goals
   have g1:=h19.1.to (λ _=>if_neg c22)
   have hb1:=h19.2.i64 h11.ok.lL h11.ok.lc
  all_goals (refine D1 ?_;refine aA ?_;refine aC (cM (hs:=xH k bx bm x11.2 dn rs) (os:=xW x11.2) (hc:=λ w hs=>cJ x11.1 _ h11.bd g1 h11.ok hs)) (λ x27 h27=>?_);refine cC ?_;refine aC (cM (hs:=xH k bx bm x11.2 dn rs) (os:=xW x11.2) (hc:=λ w hs=>qC hg (aD x11.2.L x11.1).nd.status _ hb1.2.2.2.2.2 h27.1 h11.ok hs)) (λ x29 h29=>?_);refine iW ?_)
  all_goals
   refine eJ [6,30,31,32,33,34,35,36,37,38,39,40,41] (λ q:Int×XS×List aU=>[(6,.int .i64 q.1)]) (λ q=>Nx g x q.2.1 q.2.2 (jX t x11.1 q.1 K) 0/\x11.1<=q.2.1.L.length) (λ q=>[(x3,.cells ⟨[.int .i64 t.root,.bool t.ro]⟩ 29 (0,0)),(bx,xO k bm q.2.1 dn rs),(bm,xM q.2.1)]) (λ q=>aL q.2.2) (λ q=>xW q.2.1) (by decide) (λ _=>by exact rfl) ?_ (λ q f hx=>?_)
   ·refine aR ?_
    refine wZ ?_;refine uM ?_
    refine bE (λ c31=>?_) (λ c31=>?_)
    ·have g2:=h29.go.to (λ _=>if_pos c31)
     have hv2:x11.1<=x29.2.L.length:=by have:=h29.len;have:=h11.bd;omega
     refine Kb5 ?_;refine aA ?_;refine aC (cM (hs:=xH k bx bm x29.2 dn rs) (os:=xW x29.2) (hc:=λ w hs=>Ql hg t x11.1 _ ht hv2 g2 h29.ok hs)) (λ x35 h35=>?_);refine aG ?_;refine wZ ?_;refine qJ ?_;refine aC (cM (hs:=xH k bx bm x35.1 dn rs) (os:=xW x35.1) (hc:=λ w hs=>cJ x11.1 _ (by have:=h35.len;omega) h35.go h35.ok hs)) (λ x39 h39=>?_);refine cC ?_;refine aC (cM (hs:=xH k bx bm x35.1 dn rs) (os:=xW x35.1) (hc:=λ w hs=>qC hg (aD x35.1.L x11.1).nd.status _ (h39.2.i64 h35.ok.lL h35.ok.lc).2.2.2.2.2 h39.1 h35.ok hs)) (λ x41 h41=>?_);refine J1 ?_
     refine fF ((x41.1,x41.2,x35.2)) ?_ (hw1:=λ w hw=>by rw[List.append_nil] at hw;exact hw.v6)
     ·exact⟨((h11.trans h29).trans (h35.trans h41)).ext' h41.go (bH _),(show x11.1<=(x41.2.L.length:Int) by have:=h35.len;have:=h41.len;omega)⟩
    ·have g2:=h29.go.to (λ _=>if_neg c31)
     have hv2:x11.1<=x29.2.L.length:=by have:=h29.len;have:=h11.bd;omega
     refine aS ?_
     refine fF ((x29.1,x29.2,[])) ?_ (hw1:=λ w hw=>hw.back (hF:=by exact aV.nil))
     ·exact⟨(h11.trans h29).cK g2 (bH _),hv2⟩
   dsimp only[iB,List.map,List.cons_append,List.nil_append]
  all_goals (refine Kb6 ?_;refine aC (cM (hs:=xH k bx bm q.2.1 dn rs) (os:=xW q.2.1) (hc:=λ w hs=>F5 x11.1 q.1 _ hx.2 hx.1.go hx.1.ok hs)) (λ x45 h45=>?_);refine Ka4 ?_;refine J3 ?_;refine qJ ?_;refine aC (cM (hs:=xH k bx bm q.2.1 dn rs) (os:=xW q.2.1) (hc:=λ w hs=>vU hg t.root x11.1 x45 _ ht h45.2 h45.1 hx.1.ok hs)) (λ x51 h51=>?_);refine aG ?_;refine Ka5 ?_)
  all_goals
   refine aN Tryz.results179 (λ w hw=>?_)
   exact⟨(x45,x51.2,q.2.2),rfl,(hx.1.trans h51).ext' h51.go (by have:=h51.len;have:=h45.2;omega),hw.v4⟩
theorem tE(hg:g.Ok)(t:dO)(i bA n:Int)(K:Bool->Tr)(ht:t.root<=9223372036854775807)(hi:i<=x.L.length)(hn:n<=x.L.length)(go:fS g x (oI t i bA n K))(ok:x.Ok)(hs:SF w D (xH k bx bm x dn rs) A [] (xW x) w):Calls Tryz.prog 178 #[.pointer (some ⟨bx,0,none⟩),M0 t,.int .i64 i,.int .i64 bA,.int .i64 n] w λ e w'=>∃q:Bool×XS×List aU,e=.returned (.bool q.1)/\Nx g x q.2.1 q.2.2 (K q.1) 0/\SF w D (xH k bx bm q.2.1 dn rs) [] (aL q.2.2) (xW q.2.1) w':=by
 refine enter Tryz.func178 Tryz.ntmps178 rfl rfl (cH hs) ?_
 simp only[cE]
 simp only[M0]
 refine J0 ?_;refine bN (λ x6=>?_);refine iW ?_;refine Kb6 ?_;refine aC (cM (hs:=xH k bx bm x dn rs) (os:=xW x) (hc:=λ w hs=>cJ i _ hi go ok hs)) (λ x15 h15=>?_);refine cC ?_;refine qJ ?_;refine aC (cM (hs:=xH k bx bm x dn rs) (os:=xW x) (hc:=λ w hs=>vU hg (aD x.L i).nd.main bA n _ (h15.2.i64 ok.lL ok.lc).2.2.2.1 hn h15.1 ok hs)) (λ x19 h19=>?_);refine pN ?_
 refine bE (λ c20=>?_) (λ c20=>?_)
 ·refine cZ ?_
  refine aN Tryz.results178 (λ w hw=>?_)
  exact⟨(false,x19.2,[]),rfl,h19.cK (h19.go.to (λ _=>if_neg (by simpa using c20))) (bH _),hw.aX (hF:=by exact aV.nil)⟩
 ·have g1:=h19.go.to (λ _=>if_pos (by simpa using c20))
  have hl19:=h19.len
  refine aS ?_;refine Kb5 ?_;refine qJ ?_;refine aC (cM (hs:=xH k bx bm x19.2 dn rs) (os:=xW x19.2) (hc:=λ w hs=>Px hg t i n _ ht (by omega) (by omega) g1 h19.ok hs)) (λ x25 h25=>?_);refine J1 ?_;refine lQ ?_;refine Fy ?_
  (refine eG 31 (λ g31=>?_) (λ g31=>?_)<;>refine Ka0 ?_)
  all_goals (refine Ka0 ?_;refine uU ?_;refine J1 ?_)
  all_goals
  refine aN Tryz.results178 (λ w hw=>?_)
  rw[List.append_nil] at hw
  first
   | exact⟨(x25.1==n,x25.2.1,x25.2.2),rfl,(h19.trans h25).cK h25.go (bH _),hw.v4⟩
   | exact⟨(false,x25.2.1,x25.2.2),rfl,(h19.trans h25).cK (h25.go.bV (by assumption)) (bH _),hw.v4⟩
end
end
end Go.Proofs.YtbajmaoegmbfgaaGreat
namespace Go.Ct
open Go Go.RowKit
section
theorem Ch.to{g:Gx}{x0 x X:XS}{F:Fr}{N:List aU}{t t':Tr}{b b':Int}(h:Ch x0 X F)(h2:Nx g x X N t b)(go:fS g X t')(hc:x0.cs.length<=X.cs.length)(hb:b'<=X.L.length):∃N,Nx g x0 X N t' b'/\∀f∈aL N,f.2=[]∨f∈F:=by
 obtain⟨N,h3,h4⟩:=h
 exact⟨N,⟨go,h2.ok,h3,hc,hb⟩,h4⟩
theorem XS.Ok.sG{w0 w:World}{M:List Nat}{H:List (Nat×Obj)}{A F:Fr}{O:List Ow}{x:XS}(ok:x.Ok)(h:SF w0 M H A F O w)(hA:∀f∈aL x.L,f∈A)(r:Int):rV w (aD x.L r).nd (aD x.L r).xs (aD x.L r).ys:=h.ie (Ch.base (F:=F)) hA ok r
end
end Go.Ct
namespace Go.Proofs.YtbajmaoegmbfgaaGreat
open Go.Proofs.Tryz (prog)
open Go Go.RowKit Go.Ct
section
structure vQ(n:Nat)(o:Option (Nat×List Int)):Prop where
 out:∀q,o=some q->q.1<18446744073709551616/\q.2.length<=64/\∀r∈q.2,r<=n
theorem bu{b:Nat}{xs:List Int}(h:BV b xs):xs.length<=64:=by rw[h.len];exact Fa b 64
theorem q8{xs:List Int}{p:Nat}{r v:Int}(h:v∈qQ xs p r):v∈xs∨v=r:=by
 unfold qQ at h
 rcases List.mem_append.1 h with h|h
 ·exact .inl (List.mem_of_mem_take h)
 ·rcases List.mem_cons.1 h with h|h
  ·exact .inr h
  ·exact .inl (List.mem_of_mem_drop h)
theorem rh{xs:List Int}{p:Nat}{r v:Int}(h:v∈wQ xs p r):v∈xs∨v=r:=by
 unfold wQ at h
 rcases List.mem_append.1 h with h|h
 ·exact .inl (List.mem_of_mem_take h)
 ·rcases List.mem_cons.1 h with h|h
  ·exact .inr h
  ·exact .inl (List.mem_of_mem_drop h)
theorem oa{xs:List Int}{p:Nat}{v:Int}(h:v∈sD xs p):v∈xs:=by
 unfold sD at h
 rcases List.mem_append.1 h with h|h
 ·exact List.mem_of_mem_take h
 ·exact List.mem_of_mem_drop h
section
variable{n:Nd}{xs:List Int}{ys:List Pr}{b m:Nat}
theorem n7(hb:n.bm=(b:Int))(hb2:b<18446744073709551616)(hx:∀r∈xs,r<=m){r:Int}(hr:r<=m)(i:Int):vQ m (m6 n xs ys b i r):=⟨λ q hq=>by
 unfold m6 at hq
 split at hq
 ·rename_i h
  cases hq
  obtain⟨h1,h2,h3⟩:=h
  have hv:=h1.bv hb hb2
  obtain⟨e1,e2,e3,e4⟩:=sN h3
  have:=(Rg hv (i:=i.toNat) (by omega) e3 h2).1
  rw[<- e4] at this
  exact⟨this.lt,bu this,λ v hv=>(q8 hv).elim (hx v) (λ e=>e▸hr)⟩
 ·cases hq⟩
theorem s6(hb:n.bm=(b:Int))(hb2:b<18446744073709551616)(hx:∀r∈xs,r<=m){r:Int}(hr:r<=m)(i:Int):vQ m (m8 n xs ys b i r):=⟨λ q hq=>by
 unfold m8 at hq
 split at hq
 ·rename_i h
  cases hq
  obtain⟨h1,h0,h2,h3⟩:=h
  have hv:=h1.bv hb hb2
  have e:i=((i.toNat:Nat):Int):=by omega
  have hk:i.toNat<64:=by omega
  rw[e] at h3 ⊢
  rw[qM b hk] at h3
  have:=(Gj hv (i:=i.toNat) hk h3 h2).1
  rw[pK b hk,oH b hk]
  exact⟨this.lt,bu this,λ v hv=>(rh hv).elim (hx v) (λ e=>e▸hr)⟩
 ·cases hq⟩
theorem uh(hb:n.bm=(b:Int))(hb2:b<18446744073709551616)(hx:∀r∈xs,r<=m)(i:Int):vQ m (ng n xs ys b i):=⟨λ q hq=>by
 unfold ng at hq
 split at hq
 ·rename_i h
  cases hq
  obtain⟨h1,h3⟩:=h
  have hv:=h1.bv hb hb2
  obtain⟨e1,e2,e3,e4⟩:=sN h3
  have hk:i.toNat<64:=by omega
  have:=(Sm hv (i:=i.toNat) hk e3).1
  have e:i=((i.toNat:Nat):Int):=by omega
  rw[e,tJ b hk,oH b hk]
  exact⟨this.lt,bu this,λ v hv=>hx v (oa hv)⟩
 ·cases hq⟩
end
theorem vQ.nvB{m c:Nat}{o:Option (Nat×List Int)}(h:vQ m o)(x:Option Addr×Nat):lX m c {(mU o x).c (mL o) [] with main:=0,prev:=0,status:=0}:=by
 rw[Et]
 cases o with
 | none=>exact⟨bH _,bH _,bH _,(λ r hr=>nomatch hr),bH _,bH _,bH _,⟨0,rfl,by decide⟩,⟨0,rfl,by decide⟩⟩
 | some q =>
  have h1:=h.out q rfl
  exact⟨bH _,bH _,bH _,h1.2.2,bH _,bH _,bH _,⟨q.1,rfl,h1.1⟩,⟨0,rfl,by decide⟩⟩
theorem vQ.len{m:Nat}{o:Option (Nat×List Int)}(h:vQ m o):(mL o).length<=274877906944:=by
 cases o with
 | none=>exact Nat.zero_le _
 | some q=>exact Nat.le_trans (h.out q rfl).2.1 (by decide)
theorem Ei(o:Option (Nat×List Int))(x:Option Addr×Nat):(mU o x).brN=(mL o).length:=by cases o<;>rfl
theorem Ea(o:Option (Nat×List Int))(x:Option Addr×Nat):(mU o x).prN=([]:List Pr).length:=by cases o<;>rfl
theorem Ss{A F:Fr}{O:List Ow}{o:Option (Nat×List Int)}{x:Option Addr×Nat}:bI A ((x.1,aH (mL o))::F) O [((mU o x).brA,aH (mL o)),((mU o x).prA,dE [])]:=by
 cases o with
 | none=>exact .cons (.inl rfl) (.cons (.inl rfl) .nil)
 | some q=>exact .cons (.inr (.inr (.inl (.head _)))) (.cons (.inl rfl) .nil)
section
variable{v:aU}{n c:Nat}{w:World}
theorem eV(h:lX n c v.c):v.nd.bm=((v.c.bm.toNat:Nat):Int)/\v.c.bm.toNat<18446744073709551616:=by
 obtain⟨b,h1,h2⟩:=h.bm
 have h3:v.nd.bm=(b:Int):=h1
 have h4:v.c.bm=(b:Int):=h1
 rw[h3,h4]
 exact⟨by simp,by simpa using h2⟩
theorem I1(h:lX n c v.c)(i:Int)(hr:rV w v.nd v.xs v.ys):Calls prog 216 #[v.nd.v,.int .i64 i] w λ e w'=>e=.returned (.tuple #[.int .i64 ((kU v.c i).getD 0),.bool (kU v.c i).isSome])/\St w [] [] w':=by
 have h1:=eV h
 have:=nR (n:=v.nd) i h1.1 h1.2 hr
 rw[aB2 h1.1 i] at this
 exact this
theorem qG(h:lX n c v.c)(i:Int):(kU v.c i).getD 0<=n:=by
 have h1:=eV h
 have e:=aB2 (xs:=v.xs) (ys:=v.ys) h1.1 i
 rw[show kU v.c i=kU (v.nd.c v.xs v.ys) i from rfl,<- e]
 unfold Mx
 split
 ·exact mC h.br _
 ·exact bH _
noncomputable abbrev Qx (v:aU) (i r:Int):Option (Nat×List Int):=m6 v.nd v.xs v.ys v.c.bm.toNat i r
noncomputable abbrev Yz (v:aU) (i r:Int):Option (Nat×List Int):=m8 v.nd v.xs v.ys v.c.bm.toNat i r
noncomputable abbrev Za (v:aU) (i:Int):Option (Nat×List Int):=ng v.nd v.xs v.ys v.c.bm.toNat i
theorem aBO(h:lX n c v.c)(i r:Int)(x:Option Addr×Nat):Rl v.c i r=(mU (Qx v i r) x).c (mL (Qx v i r)) []:=by
 rw[Et]
 exact(aAE (eV h).1 i r).symm
theorem aCc(h:lX n c v.c)(i r:Int)(x:Option Addr×Nat):inV v.c i r=(mU (Yz v i r) x).c (mL (Yz v i r)) []:=by
 rw[Et]
 exact(aCp (eV h).1 i r).symm
theorem wz(h:lX n c v.c)(i:Int)(x:Option Addr×Nat):M9 v.c i=(mU (Za v i) x).c (mL (Za v i)) []:=by
 rw[Et]
 exact(aAX (eV h).1 i).symm
theorem vh(h:lX n c v.c)(i r:Int)(hr:rV w v.nd v.xs v.ys):Calls prog 220 #[v.nd.v,.int .i64 i,.int .i64 r] w (X6 w (Qx v i r)):=Mk (n:=v.nd) i r (eV h).1 (eV h).2 hr
theorem j6(h:lX n c v.c)(i r:Int)(hr:rV w v.nd v.xs v.ys):Calls prog 249 #[v.nd.v,.int .i64 i,.int .i64 r] w (X6 w (Yz v i r)):=H6 (n:=v.nd) i r (eV h).1 (eV h).2 hr
theorem aBq(h:lX n c v.c)(i:Int)(hr:rV w v.nd v.xs v.ys):Calls prog 252 #[v.nd.v,.int .i64 i] w (X6 w (Za v i)):=K4 (n:=v.nd) i (eV h).1 (eV h).2 hr
theorem lh(h:lX n c v.c){r:Int}(hr:r<=n)(i:Int):vQ n (Qx v i r):=n7 (eV h).1 (eV h).2 h.br hr i
theorem aBB(h:lX n c v.c){r:Int}(hr:r<=n)(i:Int):vQ n (Yz v i r):=s6 (eV h).1 (eV h).2 h.br hr i
theorem aCd(h:lX n c v.c)(i:Int):vQ n (Za v i):=uh (eV h).1 (eV h).2 h.br i
end
theorem sP{n c:Nat}{g:Int}:lX n c {(({Nd.zero with kind:=2,gen:=g}:Nd).c [] []) with main:=0,prev:=0,status:=0}:=⟨bH _,bH _,bH _,(λ r hr=>nomatch hr),bH _,bH _,bH _,⟨0,rfl,by decide⟩,⟨0,rfl,by decide⟩⟩
section
variable{k:Cl}{bx bm:Nat}{x:XS}{dn:Bool}{rs:Rs}{D:List Nat}{A:Fr}{w:World}{g:Gx}
theorem Lx(hg:g.Ok)(t:dO)(o ex n:Int)(K:Bool->Tr)(ht:t.root<=9223372036854775807)(ho:o<=x.L.length)(he:ex<=x.L.length)(hn:n<=x.L.length)(go:fS g x (jK t o ex n K))(ok:x.Ok)(hs:SF w D (xH k bx bm x dn rs) A [] (xW x) w):Calls prog 180 #[.pointer (some ⟨bx,0,none⟩),M0 t,.int .i64 o,.int .i64 ex,.int .i64 n] w λ e w'=>∃q:Bool×XS×List aU,e=.returned (.bool q.1)/\Nx g x q.2.1 q.2.2 (K q.1) 0/\SF w D (xH k bx bm q.2.1 dn rs) [] (aL q.2.2) (xW q.2.1) w':=by
 refine enter Tryz.func180 Tryz.ntmps180 rfl rfl (cH hs) ?_
 simp only[cE]
 simp only[M0]
 refine J0 ?_;refine bN (λ x6=>?_);refine zM ?_;refine qJ ?_;refine bK ?_;refine aC (cM (hs:=xH k bx bm x dn rs) (os:=xW x) (A0:=[(none,aH []),(none,dE [])]) (hc:=λ w hs=>gI hg (n:={Nd.zero with kind:=8,bA:=o,exp:=ex,new:=n}) (xs:=[]) (ys:=[]) 0 _ rfl rfl (by decide) (Nat.zero_le _) (eu ho he hn) (bH _) go ok hs)) (λ x18 h18=>?_);refine Kc8 ?_;refine J3 ?_;refine qJ ?_;refine aC (cM (hs:=xH k bx bm x18.2.1 dn rs) (os:=xW x18.2.1) (hc:=λ w hs=>vU hg t.root o x18.1 _ ht h18.bd h18.go h18.ok hs)) (λ x24 h24=>?_);refine pN ?_
 refine bE (λ c25=>?_) (λ c25=>?_)
 ·refine cZ ?_
  refine aN Tryz.results180 (λ w hw=>?_)
  obtain⟨N,hN,hf⟩:=(Ch.base (F:=[])).nx h18 |>.nx0 h24 |>.to h24 (h24.go.to (λ _=>if_neg (by simpa using c25))) (by have:=h18.lc;have:=h24.lc;omega) (bH _)
  exact⟨(false,x24.2,N),rfl,hN,(hw.fG hf).v4⟩
 ·have g1:=h24.go.to (λ _=>if_pos (by simpa using c25))
  have hl24:=h24.len
  have hb18:=h18.bd
  refine aS ?_;refine Kb5 ?_;refine aA ?_;refine aC (cM (hs:=xH k bx bm x24.2 dn rs) (os:=xW x24.2) (hc:=λ w hs=>Ql hg t x18.1 _ ht (by omega) g1 h24.ok hs)) (λ x29 h29=>?_);refine aG ?_;refine Kb6 ?_;refine aC (cM (hs:=xH k bx bm x29.1 dn rs) (os:=xW x29.1) (hc:=λ w hs=>cJ x18.1 _ (by have:=h29.len;omega) h29.go h29.ok hs)) (λ x33 h33=>?_);refine cC ?_;refine aC (cM (hs:=xH k bx bm x29.1 dn rs) (os:=xW x29.1) (hc:=λ w hs=>qC hg (aD x29.1.L x18.1).nd.status _ (h33.2.i64 h29.ok.lL h29.ok.lc).2.2.2.2.2 h33.1 h29.ok hs)) (λ x35 h35=>?_);refine iW ?_;refine eQ [(0,[]),(1,[]),(2,[]),(3,[]),(4,[]),(5,[]),(6,[]),(7,[2]),(8,[])] ?_;refine bC ?_;refine pG ?_;refine hU ?_;refine hU ?_;refine bG (i:=7) (hq:=(cM (hs:=xH k bx bm x35.2 dn rs) (os:=xW x35.2) (hc:=λ w hs=>F5 x18.1 x35.1 _ (by have:=h29.len;have:=h35.len;omega) h35.go h35.ok hs))) (h:=λ x43 h43=>?_);refine bG (i:=8) (hq:=(cM (hs:=xH k bx bm x35.2 dn rs) (os:=xW x35.2) (hc:=λ w hs=>vU hg t.root x18.1 x43 _ ht h43.2 h43.1 h35.ok hs))) (h:=λ x44 h44=>?_);refine eO ?_;refine lQ ?_;refine Fy ?_
  (refine eG 50 (λ g50=>?_) (λ g50=>?_)<;>refine Ka0 ?_)
  all_goals (refine uU ?_;refine J1 ?_)
  all_goals
  refine aN Tryz.results180 (λ w hw=>?_)
  first
   | (obtain⟨N,hN,hf⟩:=(Ch.nx h29 ((Ch.base (F:=[])).nx h18 |>.nx0 h24)) |>.nx0 h35 |>.nx0 h44 |>.to h44 h44.go (by have:=h18.lc;have:=h24.lc;have:=h29.lc;have:=h35.lc;have:=h44.lc;omega) (bH _);exact⟨(x35.1==1,x44.2,N),rfl,hN,(hw.fG hf).v4⟩)
   | (obtain⟨N,hN,hf⟩:=(Ch.nx h29 ((Ch.base (F:=[])).nx h18 |>.nx0 h24)) |>.nx0 h35 |>.nx0 h44 |>.to (t':=K false) h44 (h44.go.bV (by assumption)) (by have:=h18.lc;have:=h24.lc;have:=h29.lc;have:=h35.lc;have:=h44.lc;omega) (bH _);exact⟨(false,x44.2,N),rfl,hN,(hw.fG hf).v4⟩)
theorem Bl(hg:g.Ok)(c index r:Int)(K:Int->Tr)(hc:c<=x.L.length)(hr:r<=x.L.length)(hA:∀f∈aL x.L,f∈A)(go:fS g x (Eo c index r K))(ok:x.Ok)(hs:SF w D (xH k bx bm x dn rs) A [] (xW x) w):Calls prog 217 #[.pointer (some ⟨bx,0,none⟩),.int .i64 c,.int .i64 index,.int .i64 r] w λ e w'=>∃q:Int×XS×List aU,e=.returned (.int .i64 q.1)/\Nx g x q.2.1 q.2.2 (K q.1) q.1/\SF w D (xH k bx bm q.2.1 dn rs) [] (aL q.2.2) (xW q.2.1) w':=by
 refine enter Tryz.func217 Tryz.ntmps217 rfl rfl (cH hs) ?_
 simp only[cE]
 refine cZ ?_;refine jM ?_;refine aC (cM (hs:=xH k bx bm x dn rs) (os:=xW x) (hc:=λ w hs=>cJ c _ hc go ok hs)) (λ x14 h14=>?_);refine qJ ?_;refine aC (cF (hc:=λ w1 hw=>vh (v:=aD x.L c) (ok.nv c) index r (ok.sG hw hA c))) (λ x17 h17=>?_);refine W7 ?_;refine aJ (λ x9=>?_);refine Dm ?_;refine Kb5 ?_;refine aA ?_;refine aC (cM (hs:=xH k bx bm x dn rs) (os:=xW x) (A0:=[((mU (Qx (aD x.L c) index r) x17).brA,aH (mL (Qx (aD x.L c) index r))),((mU (Qx (aD x.L c) index r) x17).prA,dE [])]) (hA:=Ss) (hc:=λ w hs=>gI hg (n:=mU (Qx (aD x.L c) index r) x17) (xs:=mL (Qx (aD x.L c) index r)) (ys:=[]) c _ (Ei _ _) (Ea _ _) (lh (ok.nv c) hr index).len (Nat.zero_le _) ((lh (ok.nv c) hr index).nvB _) hc (by rw[<- aBO (ok.nv c)];exact h14.1) ok hs)) (λ x23 h23=>?_);refine J1 ?_
 refine aN Tryz.results217 (λ w hw=>?_)
 exact⟨x23,rfl,h23,hw.aX (hF:=by exact aV.kN λ f hf=>List.mem_append_left _ hf)⟩
end
end
end Go.Proofs.YtbajmaoegmbfgaaGreat
