/- Executions of the reference: READ, DECIDE, HELP, GCAS, RDCSS. -/
import Derived.Test.YtbajmaoegmbfgaaGreatGEx6

set_option linter.unusedSimpArgs false
set_option linter.unusedVariables false
namespace Go.Ct
section
theorem dt{n c:Nat}{a b d:Int}(h1:a<=n)(h2:b<=n)(h3:d<=n):lQ n c {(({Nd.zero with kind:=8,bJ:=a,exp:=b,new:=d}:Nd).c [] []) with main:=0,prev:=0,status:=0}:=⟨h1,h2,h3,(λ r hr=>nomatch hr),bI _,bI _,bI _,⟨0,rfl,by decide⟩,⟨0,rfl,by decide⟩⟩
end
end Go.Ct
namespace Go.Proofs.YtbajmaoegmbfgaaGreat
section
open Go Go.RowKit Go.Ct
section
variable{k:Cl}{bx bm:Nat}{x:XS}{dn:Bool}{rs:Rs}{D:List Nat}{A:Fr}{w:World}{g:Gx}
theorem oL(hg:g.Ok)(t:fG)(i:Int)(K:Int->Tr)(ht:t.root<=9223372036854775807)(hi:i<=x.L.length)(go:fV g x (jR t i K))(ok:x.Ok)(hs:SF w D (xH k bx bm x dn rs) A [] (xW x) w):Calls Tryz.prog 177 #[.pointer (some ⟨bx,0,none⟩),Mx t,.int .i64 i] w λ e w'=>∃q:Int×XS×List aP,e=.returned (.int .i64 q.1)/\Nx g x q.2.1 q.2.2 (K q.1) q.1/\SF w D (xH k bx bm q.2.1 dn rs) [] (aM q.2.2) (xW q.2.1) w':=by
 refine enter Tryz.func177 Tryz.ntmps177 rfl rfl (cA hs) ?_
 simp only[cD]
 simp only[Mx]
 refine J0 ?_;refine bK (λ x4=>?_);refine iO ?_;refine dZ [(0,[]),(1,[]),(2,[]),(3,[]),(4,[]),(5,[]),(6,[1]),(7,[]),(8,[1]),(9,[]),(10,[])] ?_;refine aT ?_;refine bN ?_;refine gV ?_;refine gV ?_;refine bB (i:=6) (hq:=(cM (hs:=xH k bx bm x dn rs) (os:=xW x) (hc:=λ w hs=>cG i _ hi go ok hs))) (h:=λ x13 h13=>?_);refine kZ ?_;refine bB (i:=8) (hq:=(cM (hs:=xH k bx bm x dn rs) (os:=xW x) (hc:=λ w hs=>pQ hg (aB x.L i).nd.main _ (h13.2.i64 ok.lL ok.lc).2.2.2.1 h13.1 ok hs))) (h:=λ x15 h15=>?_);refine bB (i:=9) (hq:=(cM (hs:=xH k bx bm x15.2 dn rs) (os:=xW x15.2) (hc:=λ w hs=>Qd hg t i x15.1 _ ht (by have:=h15.len;omega) h15.bd h15.go h15.ok hs))) (h:=λ x16 h16=>?_);refine J7 ?_
 refine aQ Tryz.results177 (λ w hw=>?_)
 exact⟨x16,rfl,h15.trans h16,by rw[List.append_nil] at hw;exact hw.aV (hF:=by exact aW.all)⟩
theorem O7(hg:g.Ok)(t:fG)(v:Int)(K:Tr)(ht:t.root<=9223372036854775807)(hv:v<=x.L.length)(go:fV g x (zN t v K))(ok:x.Ok)(hs:SF w D (xH k bx bm x dn rs) A [] (xW x) w):Calls Tryz.prog 213 #[.pointer (some ⟨bx,0,none⟩),Mx t,.int .i64 v] w λ e w'=>∃q:XS×List aP,e=.returned (.tuple #[])/\Nx g x q.1 q.2 K 0/\SF w D (xH k bx bm q.1 dn rs) [] (aM q.2) (xW q.1) w':=by
 refine enter Tryz.func213 Tryz.ntmps213 rfl rfl (cA hs) ?_
 simp only[cD]
 simp only[Mx]
 refine J0 ?_;refine bK (λ x4=>?_);refine aH ?_;refine Ha ?_;refine aS ?_;refine dZ [(0,[]),(1,[]),(2,[]),(3,[]),(7,[]),(8,[]),(4,[1]),(5,[]),(6,[]),(9,[]),(10,[]),(11,[])] ?_;refine aT ?_;refine bN ?_;refine gV ?_;refine gV ?_;refine bB (i:=4) (hq:=(cM (hs:=xH k bx bm x dn rs) (os:=xW x) (hc:=λ w hs=>cG v _ hv go ok hs))) (h:=λ x11 h11=>?_);refine kZ ?_;refine bB (i:=6) (hq:=(cM (hs:=xH k bx bm x dn rs) (os:=xW x) (hc:=λ w hs=>oL hg t (aB x.L v).nd.bJ _ ht h11.2.bJ h11.1 ok hs))) (h:=λ x13 h13=>?_);refine bB (i:=9) (hq:=(cM (hs:=xH k bx bm x13.2.1 dn rs) (os:=xW x13.2.1) (hc:=λ w hs=>cG v _ (by have:=h13.len;omega) h13.go h13.ok hs))) (h:=λ x16 h16=>?_);refine kZ ?_;refine mR ?_;refine eJ ?_
 refine aZ (λ c18=>?_) (λ c18=>?_)
 ·have gx:fV g x13.2.1 (.node v λ n3=>.jP n3.status 0 1 λ _=>K):=h16.1.to (λ _=>by rw[show x13.1=(aB x13.2.1.L v).c.exp from c18];simp only[if_true])
  have h2e:(1:Int)<=x13.2.1.L.length:=by have:=h13.ok.two;omega
  refine dI ?_;refine J1 ?_;refine Aa ?_;refine pD ?_;refine aD (cM (hs:=xH k bx bm x13.2.1 dn rs) (os:=xW x13.2.1) (hc:=λ w hs=>cG v _ (by have:=h13.len;omega) gx h13.ok hs)) (λ x22 h22=>?_);refine bZ ?_;refine aA ?_;(refine aN (by exact cM (hs:=xH k bx bm x13.2.1 dn rs) (os:=xW x13.2.1) (hc:=λ w hs=>vU hg (aB x13.2.1.L v).nd.status 0 1 _ (h22.2.i64 h13.ok.lL h13.ok.lc).2.2.2.2.2 h2e h22.1 h13.ok hs)) (λ x25=>?_);try (refine eR (λ h25=>?_)));refine aH ?_
  refine Dt Tryz.results213 (λ w hw=>?_)
  rw[List.append_nil] at hw
  exact⟨(x25.2,x13.2.2),rfl,(h13.trans h25).ext' h25.go (bI _),hw.aV (hF:=by exact aW.all)⟩
 ·have gx:fV g x13.2.1 (.node v λ n3=>.jP n3.status 0 2 λ _=>K):=h16.1.to (λ _=>by simp only[if_neg (show ¬x13.1=(aB x13.2.1.L v).c.exp from c18)])
  have h2e:(2:Int)<=x13.2.1.L.length:=by have:=h13.ok.two;omega
  refine aX ?_;refine Aa ?_;refine pD ?_;refine aD (cM (hs:=xH k bx bm x13.2.1 dn rs) (os:=xW x13.2.1) (hc:=λ w hs=>cG v _ (by have:=h13.len;omega) gx h13.ok hs)) (λ x22 h22=>?_);refine bZ ?_;refine aA ?_;(refine aN (by exact cM (hs:=xH k bx bm x13.2.1 dn rs) (os:=xW x13.2.1) (hc:=λ w hs=>vU hg (aB x13.2.1.L v).nd.status 0 2 _ (h22.2.i64 h13.ok.lL h13.ok.lc).2.2.2.2.2 h2e h22.1 h13.ok hs)) (λ x25=>?_);try (refine eR (λ h25=>?_)));refine aH ?_
  refine Dt Tryz.results213 (λ w hw=>?_)
  rw[List.append_nil] at hw
  exact⟨(x25.2,x13.2.2),rfl,(h13.trans h25).ext' h25.go (bI _),hw.aV (hF:=by exact aW.all)⟩
theorem Bv(hg:g.Ok)(t:fG)(K:Int->Tr)(ht:t.root<=9223372036854775807)(go:fV g x (xX t K))(ok:x.Ok)(hs:SF w D (xH k bx bm x dn rs) A [] (xW x) w):Calls Tryz.prog 179 #[.pointer (some ⟨bx,0,none⟩),Mx t] w λ e w'=>∃q:Int×XS×List aP,e=.returned (.int .i64 q.1)/\Nx g x q.2.1 q.2.2 (K q.1) q.1/\SF w D (xH k bx bm q.2.1 dn rs) [] (aM q.2.2) (xW q.2.1) w':=by
 refine enter Tryz.func179 Tryz.ntmps179 rfl rfl (cA hs) ?_
 simp only[cD]
 simp only[Mx]
 refine J0 ?_;refine bK (λ x3=>?_);refine J1 ?_;refine J2 ?_;refine J3 ?_;refine aD (cM (hs:=xH k bx bm x dn rs) (os:=xW x) (hc:=λ w hs=>pQ hg t.root _ ht go ok hs)) (λ x11 h11=>?_);refine iO ?_;refine mJ ?_;refine aA ?_
 (refine dX 16 (λ g16=>?_) (λ g16=>?_)<;>(first|refine aI ?_|(refine aE ?_;refine aA ?_)))
 all_goals ((first|refine aI ?_|(refine aE ?_;refine aA ?_));(first|refine aI ?_|(refine aE ?_;refine aD (cM (hs:=xH k bx bm x11.2 dn rs) (os:=xW x11.2) (hc:=λ w hs=>cG x11.1 _ h11.bd h11.go h11.ok hs)) (λ x19 h19=>?_)));refine yz ?_;refine aH ?_)
 all_goals
 refine aZ (λ c22=>?_) (λ c22=>?_)
 ·all_goals (refine J2 ?_;refine J1 ?_)
  all_goals
   refine aQ Tryz.results179 (λ w hw=>?_)
   exact⟨(x11.1,x11.2,[]),rfl,h11.cE (by first|exact h11.go.bW (by assumption)|exact h19.1.to (λ _=>if_pos (by assumption))) h11.bd,hw.aV (hF:=by exact aW.nil)⟩
 ·try exact nv c22
  all_goals
   have g1:=h19.1.to (λ _=>if_neg c22)
   have hb1:=h19.2.i64 h11.ok.lL h11.ok.lc
  all_goals (refine C6 ?_;refine aA ?_;refine aD (cM (hs:=xH k bx bm x11.2 dn rs) (os:=xW x11.2) (hc:=λ w hs=>cG x11.1 _ h11.bd g1 h11.ok hs)) (λ x27 h27=>?_);refine bZ ?_;refine aD (cM (hs:=xH k bx bm x11.2 dn rs) (os:=xW x11.2) (hc:=λ w hs=>pQ hg (aB x11.2.L x11.1).nd.status _ hb1.2.2.2.2.2 h27.1 h11.ok hs)) (λ x29 h29=>?_);refine iO ?_)
  all_goals
   refine eQ [6,30,31,32,33,34,35,36,37,38,39,40,41] (λ q:Int×XS×List aP=>[(6,.int .i64 q.1)]) (λ q=>Nx g x q.2.1 q.2.2 (uF t x11.1 q.1 K) 0/\x11.1<=q.2.1.L.length) (λ q=>[(x3,.cells ⟨[.int .i64 t.root,.bool t.ro]⟩ 29 (0,0)),(bx,xO k bm q.2.1 dn rs),(bm,xM q.2.1)]) (λ q=>aM q.2.2) (λ q=>xW q.2.1) (by decide) (λ _=>by exact rfl) ?_ (λ q f hx=>?_)
   ·refine aS ?_
    refine Aa ?_;refine sH ?_
    refine aZ (λ c31=>?_) (λ c31=>?_)
    ·have g2:=h29.go.to (λ _=>if_pos c31)
     have hv2:x11.1<=x29.2.L.length:=by have:=h29.len;have:=h11.bd;omega
     refine J2 ?_;refine bP ?_;refine aA ?_;refine aD (cM (hs:=xH k bx bm x29.2 dn rs) (os:=xW x29.2) (hc:=λ w hs=>O7 hg t x11.1 _ ht hv2 g2 h29.ok hs)) (λ x35 h35=>?_);refine aH ?_;refine Aa ?_;refine pD ?_;refine aD (cM (hs:=xH k bx bm x35.1 dn rs) (os:=xW x35.1) (hc:=λ w hs=>cG x11.1 _ (by have:=h35.len;omega) h35.go h35.ok hs)) (λ x39 h39=>?_);refine bZ ?_;refine aD (cM (hs:=xH k bx bm x35.1 dn rs) (os:=xW x35.1) (hc:=λ w hs=>pQ hg (aB x35.1.L x11.1).nd.status _ (h39.2.i64 h35.ok.lL h35.ok.lc).2.2.2.2.2 h39.1 h35.ok hs)) (λ x41 h41=>?_);refine J1 ?_
     refine fC ((x41.1,x41.2,x35.2)) ?_ (hw1:=λ w hw=>by rw[List.append_nil] at hw;exact hw.back (hF:=by exact aW.all))
     ·exact⟨((h11.trans h29).trans (h35.trans h41)).ext' h41.go (bI _),(show x11.1<=(x41.2.L.length:Int) by have:=h35.len;have:=h41.len;omega)⟩
    ·have g2:=h29.go.to (λ _=>if_neg c31)
     have hv2:x11.1<=x29.2.L.length:=by have:=h29.len;have:=h11.bd;omega
     refine aX ?_
     refine fC ((x29.1,x29.2,[])) ?_ (hw1:=λ w hw=>hw.back (hF:=by exact aW.nil))
     ·exact⟨(h11.trans h29).cE g2 (bI _),hv2⟩
   dsimp only[iA,List.map,List.cons_append,List.nil_append]
  all_goals (refine jA ?_;refine aA ?_;refine aD (cM (hs:=xH k bx bm q.2.1 dn rs) (os:=xW q.2.1) (hc:=λ w hs=>Gz x11.1 q.1 _ hx.2 hx.1.go hx.1.ok hs)) (λ x45 h45=>?_);refine J1 ?_;refine J2 ?_;refine J3 ?_;refine pD ?_;refine aD (cM (hs:=xH k bx bm q.2.1 dn rs) (os:=xW q.2.1) (hc:=λ w hs=>vU hg t.root x11.1 x45 _ ht h45.2 h45.1 hx.1.ok hs)) (λ x51 h51=>?_);refine aH ?_;refine J2 ?_;refine J1 ?_)
  all_goals
   refine aQ Tryz.results179 (λ w hw=>?_)
   exact⟨(x45,x51.2,q.2.2),rfl,(hx.1.trans h51).ext' h51.go (by have:=h51.len;have:=h45.2;omega),hw.aV (hF:=by exact aW.all)⟩
theorem tJ(hg:g.Ok)(t:fG)(i bJ n:Int)(K:Bool->Tr)(ht:t.root<=9223372036854775807)(hi:i<=x.L.length)(hn:n<=x.L.length)(go:fV g x (jD t i bJ n K))(ok:x.Ok)(hs:SF w D (xH k bx bm x dn rs) A [] (xW x) w):Calls Tryz.prog 178 #[.pointer (some ⟨bx,0,none⟩),Mx t,.int .i64 i,.int .i64 bJ,.int .i64 n] w λ e w'=>∃q:Bool×XS×List aP,e=.returned (.bool q.1)/\Nx g x q.2.1 q.2.2 (K q.1) 0/\SF w D (xH k bx bm q.2.1 dn rs) [] (aM q.2.2) (xW q.2.1) w':=by
 refine enter Tryz.func178 Tryz.ntmps178 rfl rfl (cA hs) ?_
 simp only[cD]
 simp only[Mx]
 refine J0 ?_;refine bK (λ x6=>?_);refine iO ?_;refine jA ?_;refine aA ?_;refine aD (cM (hs:=xH k bx bm x dn rs) (os:=xW x) (hc:=λ w hs=>cG i _ hi go ok hs)) (λ x15 h15=>?_);refine bZ ?_;refine pD ?_;refine aD (cM (hs:=xH k bx bm x dn rs) (os:=xW x) (hc:=λ w hs=>vU hg (aB x.L i).nd.main bJ n _ (h15.2.i64 ok.lL ok.lc).2.2.2.1 hn h15.1 ok hs)) (λ x19 h19=>?_);refine oU ?_
 refine aZ (λ c20=>?_) (λ c20=>?_)
 ·refine cP ?_
  refine aQ Tryz.results178 (λ w hw=>?_)
  exact⟨(false,x19.2,[]),rfl,h19.cE (h19.go.to (λ _=>if_neg (by simpa using c20))) (bI _),hw.aV (hF:=by exact aW.nil)⟩
 ·have g1:=h19.go.to (λ _=>if_pos (by simpa using c20))
  have hl19:=h19.len
  refine aX ?_;refine J2 ?_;refine bP ?_;refine pD ?_;refine aD (cM (hs:=xH k bx bm x19.2 dn rs) (os:=xW x19.2) (hc:=λ w hs=>Qd hg t i n _ ht (by omega) (by omega) g1 h19.ok hs)) (λ x25 h25=>?_);refine J1 ?_;refine mJ ?_;refine Cb ?_
  (refine dX 31 (λ g31=>?_) (λ g31=>?_)<;>(first|refine aI ?_|(refine aE ?_;refine aA ?_)))
  all_goals ((first|refine aI ?_|(refine aE ?_;refine aA ?_));refine vW ?_;refine J1 ?_)
  all_goals
  refine aQ Tryz.results178 (λ w hw=>?_)
  rw[List.append_nil] at hw
  first
   | exact⟨(x25.1==n,x25.2.1,x25.2.2),rfl,(h19.trans h25).cE h25.go (bI _),hw.aV (hF:=by exact aW.all)⟩
   | exact⟨(false,x25.2.1,x25.2.2),rfl,(h19.trans h25).cE (h25.go.bW (by assumption)) (bI _),hw.aV (hF:=by exact aW.all)⟩
end
end

/- Executions of the reference: RDCSS, RENEW; functions that read lists of nodes. -/
end Go.Proofs.YtbajmaoegmbfgaaGreat
namespace Go.Ct
section
open Go Go.RowKit
theorem Ch.to{g:Gx}{x0 x X:XS}{F:Fr}{N:List aP}{t t':Tr}{b b':Int}(h:Ch x0 X F)(h2:Nx g x X N t b)(go:fV g X t')(hc:x0.cs.length<=X.cs.length)(hb:b'<=X.L.length):∃N,Nx g x0 X N t' b'/\∀f∈aM N,f.2=[]∨f∈F:=by
 obtain⟨N,h3,h4⟩:=h
 exact⟨N,⟨go,h2.ok,h3,hc,hb⟩,h4⟩
theorem XS.Ok.rQ{w0 w:World}{M:List Nat}{H:List (Nat×Obj)}{A F:Fr}{O:List Ow}{x:XS}(ok:x.Ok)(h:SF w0 M H A F O w)(hA:∀f∈aM x.L,f∈A)(r:Int):rX w (aB x.L r).nd (aB x.L r).xs (aB x.L r).ys:=h.gp (Ch.base (F:=F)) hA ok r
end
end Go.Ct
namespace Go.Proofs.YtbajmaoegmbfgaaGreat
section
open Go Go.RowKit Go.Ct
structure vQ(n:Nat)(o:Option (Nat×List Int)):Prop where
 out:∀q,o=some q->q.1<18446744073709551616/\q.2.length<=64/\∀r∈q.2,r<=n
theorem gh{b:Nat}{xs:List Int}(h:BV b xs):xs.length<=64:=by rw[h.len];exact vE b 64
theorem qc{xs:List Int}{p:Nat}{r v:Int}(h:v∈yN xs p r):v∈xs∨v=r:=by
 unfold yN at h
 rcases List.mem_append.1 h with h|h
 ·exact .inl (List.mem_of_mem_take h)
 ·rcases List.mem_cons.1 h with h|h
  ·exact .inr h
  ·exact .inl (List.mem_of_mem_drop h)
theorem kx{xs:List Int}{p:Nat}{r v:Int}(h:v∈uY xs p r):v∈xs∨v=r:=by
 unfold uY at h
 rcases List.mem_append.1 h with h|h
 ·exact .inl (List.mem_of_mem_take h)
 ·rcases List.mem_cons.1 h with h|h
  ·exact .inr h
  ·exact .inl (List.mem_of_mem_drop h)
theorem ns{xs:List Int}{p:Nat}{v:Int}(h:v∈sC xs p):v∈xs:=by
 unfold sC at h
 rcases List.mem_append.1 h with h|h
 ·exact List.mem_of_mem_take h
 ·exact List.mem_of_mem_drop h
section
variable{n:Nd}{xs:List Int}{ys:List Pr}{b m:Nat}
theorem ll(hb:n.bm=(b:Int))(hb2:b<18446744073709551616)(hx:∀r∈xs,r<=m){r:Int}(hr:r<=m)(i:Int):vQ m (j4 n xs ys b i r):=⟨λ q hq=>by
 unfold j4 at hq
 split at hq
 ·rename_i h
  cases hq
  obtain⟨h1,h2,h3⟩:=h
  have hv:=h1.bv hb hb2
  obtain⟨e1,e2,e3,e4⟩:=rT h3
  have:=(R5 hv (i:=i.toNat) (by omega) e3 h2).1
  rw[<- e4] at this
  exact⟨this.lt,gh this,λ v hv=>(qc hv).elim (hx v) (λ e=>e▸hr)⟩
 ·cases hq⟩
theorem ng(hb:n.bm=(b:Int))(hb2:b<18446744073709551616)(hx:∀r∈xs,r<=m){r:Int}(hr:r<=m)(i:Int):vQ m (j6 n xs ys b i r):=⟨λ q hq=>by
 unfold j6 at hq
 split at hq
 ·rename_i h
  cases hq
  obtain⟨h1,h0,h2,h3⟩:=h
  have hv:=h1.bv hb hb2
  have e:i=((i.toNat:Nat):Int):=by omega
  have hk:i.toNat<64:=by omega
  rw[e] at h3 ⊢
  rw[pV b hk] at h3
  have:=(Hr hv (i:=i.toNat) hk h3 h2).1
  rw[pB b hk,oE b hk]
  exact⟨this.lt,gh this,λ v hv=>(kx hv).elim (hx v) (λ e=>e▸hr)⟩
 ·cases hq⟩
theorem lh(hb:n.bm=(b:Int))(hb2:b<18446744073709551616)(hx:∀r∈xs,r<=m)(i:Int):vQ m (j9 n xs ys b i):=⟨λ q hq=>by
 unfold j9 at hq
 split at hq
 ·rename_i h
  cases hq
  obtain⟨h1,h3⟩:=h
  have hv:=h1.bv hb hb2
  obtain⟨e1,e2,e3,e4⟩:=rT h3
  have hk:i.toNat<64:=by omega
  have:=(Te hv (i:=i.toNat) hk e3).1
  have e:i=((i.toNat:Nat):Int):=by omega
  rw[e,sZ b hk,oE b hk]
  exact⟨this.lt,gh this,λ v hv=>hx v (ns hv)⟩
 ·cases hq⟩
end
theorem vQ.nvB{m c:Nat}{o:Option (Nat×List Int)}(h:vQ m o)(x:Option Addr×Nat):lQ m c {(mK o x).c (mC o) [] with main:=0,prev:=0,status:=0}:=by
 rw[Ex]
 cases o with
 | none=>exact⟨bI _,bI _,bI _,(λ r hr=>nomatch hr),bI _,bI _,bI _,⟨0,rfl,by decide⟩,⟨0,rfl,by decide⟩⟩
 | some q =>
  have h1:=h.out q rfl
  exact⟨bI _,bI _,bI _,h1.2.2,bI _,bI _,bI _,⟨q.1,rfl,h1.1⟩,⟨0,rfl,by decide⟩⟩
theorem vQ.len{m:Nat}{o:Option (Nat×List Int)}(h:vQ m o):(mC o).length<=274877906944:=by
 cases o with
 | none=>exact Nat.zero_le _
 | some q=>exact Nat.le_trans (h.out q rfl).2.1 (by decide)
theorem Ef(o:Option (Nat×List Int))(x:Option Addr×Nat):(mK o x).brN=(mC o).length:=by cases o<;>rfl
theorem Eb(o:Option (Nat×List Int))(x:Option Addr×Nat):(mK o x).prN=([]:List Pr).length:=by cases o<;>rfl
theorem Sj{A F:Fr}{O:List Ow}{o:Option (Nat×List Int)}{x:Option Addr×Nat}:bE A ((x.1,aG (mC o))::F) O [((mK o x).brA,aG (mC o)),((mK o x).prA,cR [])]:=by
 cases o with
 | none=>exact .cons (.inl rfl) (.cons (.inl rfl) .nil)
 | some q=>exact .cons (.inr (.inr (.inl (.head _)))) (.cons (.inl rfl) .nil)
section
variable{v:aP}{n c:Nat}{w:World}
theorem eW(h:lQ n c v.c):v.nd.bm=((v.c.bm.toNat:Nat):Int)/\v.c.bm.toNat<18446744073709551616:=by
 obtain⟨b,h1,h2⟩:=h.bm
 have h3:v.nd.bm=(b:Int):=h1
 have h4:v.c.bm=(b:Int):=h1
 rw[h3,h4]
 exact⟨by simp,by simpa using h2⟩
theorem Iz(h:lQ n c v.c)(i:Int)(hr:rX w v.nd v.xs v.ys):Calls Tryz.prog 216 #[v.nd.v,.int .i64 i] w λ e w'=>e=.returned (.tuple #[.int .i64 ((lT v.c i).getD 0),.bool (lT v.c i).isSome])/\St w [] [] w':=by
 have h1:=eW h
 have:=nZ (n:=v.nd) i h1.1 h1.2 hr
 rw[aAf h1.1 i] at this
 exact this
theorem pZ(h:lQ n c v.c)(i:Int):(lT v.c i).getD 0<=n:=by
 have h1:=eW h
 have e:=aAf (xs:=v.xs) (ys:=v.ys) h1.1 i
 rw[show lT v.c i=lT (v.nd.c v.xs v.ys) i from rfl,<- e]
 unfold Kh
 split
 ·exact mH h.br _
 ·exact bI _
noncomputable abbrev Qv (v:aP) (i r:Int):Option (Nat×List Int):=j4 v.nd v.xs v.ys v.c.bm.toNat i r
noncomputable abbrev X9 (v:aP) (i r:Int):Option (Nat×List Int):=j6 v.nd v.xs v.ys v.c.bm.toNat i r
noncomputable abbrev Zm (v:aP) (i:Int):Option (Nat×List Int):=j9 v.nd v.xs v.ys v.c.bm.toNat i
theorem aAS(h:lQ n c v.c)(i r:Int)(x:Option Addr×Nat):jm v.c i r=(mK (Qv v i r) x).c (mC (Qv v i r)) []:=by
 rw[Ex]
 exact(aAu (eW h).1 i r).symm
theorem aAy(h:lQ n c v.c)(i r:Int)(x:Option Addr×Nat):wz v.c i r=(mK (X9 v i r) x).c (mC (X9 v i r)) []:=by
 rw[Ex]
 exact(aBA (eW h).1 i r).symm
theorem sd(h:lQ n c v.c)(i:Int)(x:Option Addr×Nat):Mt v.c i=(mK (Zm v i) x).c (mC (Zm v i)) []:=by
 rw[Ex]
 exact(aBc (eW h).1 i).symm
theorem r9(h:lQ n c v.c)(i r:Int)(hr:rX w v.nd v.xs v.ys):Calls Tryz.prog 220 #[v.nd.v,.int .i64 i,.int .i64 r] w (V3 w (Qv v i r)):=L7 (n:=v.nd) i r (eW h).1 (eW h).2 hr
theorem bc(h:lQ n c v.c)(i r:Int)(hr:rX w v.nd v.xs v.ys):Calls Tryz.prog 249 #[v.nd.v,.int .i64 i,.int .i64 r] w (V3 w (X9 v i r)):=H4 (n:=v.nd) i r (eW h).1 (eW h).2 hr
theorem y7(h:lQ n c v.c)(i:Int)(hr:rX w v.nd v.xs v.ys):Calls Tryz.prog 252 #[v.nd.v,.int .i64 i] w (V3 w (Zm v i)):=Mj (n:=v.nd) i (eW h).1 (eW h).2 hr
theorem ir(h:lQ n c v.c){r:Int}(hr:r<=n)(i:Int):vQ n (Qv v i r):=ll (eW h).1 (eW h).2 h.br hr i
theorem aA2(h:lQ n c v.c){r:Int}(hr:r<=n)(i:Int):vQ n (X9 v i r):=ng (eW h).1 (eW h).2 h.br hr i
theorem aAK(h:lQ n c v.c)(i:Int):vQ n (Zm v i):=lh (eW h).1 (eW h).2 h.br i
end
theorem rD{n c:Nat}{g:Int}:lQ n c {(({Nd.zero with kind:=2,gen:=g}:Nd).c [] []) with main:=0,prev:=0,status:=0}:=⟨bI _,bI _,bI _,(λ r hr=>nomatch hr),bI _,bI _,bI _,⟨0,rfl,by decide⟩,⟨0,rfl,by decide⟩⟩
section
variable{k:Cl}{bx bm:Nat}{x:XS}{dn:Bool}{rs:Rs}{D:List Nat}{A:Fr}{w:World}{g:Gx}
theorem K9(hg:g.Ok)(t:fG)(o ex n:Int)(K:Bool->Tr)(ht:t.root<=9223372036854775807)(ho:o<=x.L.length)(he:ex<=x.L.length)(hn:n<=x.L.length)(go:fV g x (Bq t o ex n K))(ok:x.Ok)(hs:SF w D (xH k bx bm x dn rs) A [] (xW x) w):Calls Tryz.prog 180 #[.pointer (some ⟨bx,0,none⟩),Mx t,.int .i64 o,.int .i64 ex,.int .i64 n] w λ e w'=>∃q:Bool×XS×List aP,e=.returned (.bool q.1)/\Nx g x q.2.1 q.2.2 (K q.1) 0/\SF w D (xH k bx bm q.2.1 dn rs) [] (aM q.2.2) (xW q.2.1) w':=by
 refine enter Tryz.func180 Tryz.ntmps180 rfl rfl (cA hs) ?_
 simp only[cD]
 simp only[Mx]
 refine J0 ?_;refine bK (λ x6=>?_);refine zI ?_;refine pD ?_;refine bM ?_;refine aD (cM (hs:=xH k bx bm x dn rs) (os:=xW x) (A0:=[(none,aG []),(none,cR [])]) (hc:=λ w hs=>gQ hg (n:={Nd.zero with kind:=8,bJ:=o,exp:=ex,new:=n}) (xs:=[]) (ys:=[]) 0 _ rfl rfl (by decide) (Nat.zero_le _) (dt ho he hn) (bI _) go ok hs)) (λ x18 h18=>?_);refine iO ?_;refine J2 ?_;refine J3 ?_;refine pD ?_;refine aD (cM (hs:=xH k bx bm x18.2.1 dn rs) (os:=xW x18.2.1) (hc:=λ w hs=>vU hg t.root o x18.1 _ ht h18.bd h18.go h18.ok hs)) (λ x24 h24=>?_);refine oU ?_
 refine aZ (λ c25=>?_) (λ c25=>?_)
 ·refine cP ?_
  refine aQ Tryz.results180 (λ w hw=>?_)
  obtain⟨N,hN,hf⟩:=(Ch.base (F:=[])).nx h18 |>.vf h24 |>.to h24 (h24.go.to (λ _=>if_neg (by simpa using c25))) (by have:=h18.lc;have:=h24.lc;omega) (bI _)
  exact⟨(false,x24.2,N),rfl,hN,(hw.eU hf).aV (hF:=by exact aW.all)⟩
 ·have g1:=h24.go.to (λ _=>if_pos (by simpa using c25))
  have hl24:=h24.len
  have hb18:=h18.bd
  refine aX ?_;refine J2 ?_;refine bP ?_;refine aA ?_;refine aD (cM (hs:=xH k bx bm x24.2 dn rs) (os:=xW x24.2) (hc:=λ w hs=>O7 hg t x18.1 _ ht (by omega) g1 h24.ok hs)) (λ x29 h29=>?_);refine aH ?_;refine jA ?_;refine aA ?_;refine aD (cM (hs:=xH k bx bm x29.1 dn rs) (os:=xW x29.1) (hc:=λ w hs=>cG x18.1 _ (by have:=h29.len;omega) h29.go h29.ok hs)) (λ x33 h33=>?_);refine bZ ?_;refine aD (cM (hs:=xH k bx bm x29.1 dn rs) (os:=xW x29.1) (hc:=λ w hs=>pQ hg (aB x29.1.L x18.1).nd.status _ (h33.2.i64 h29.ok.lL h29.ok.lc).2.2.2.2.2 h33.1 h29.ok hs)) (λ x35 h35=>?_);refine iO ?_;refine dZ [(0,[]),(1,[]),(2,[]),(3,[]),(4,[]),(5,[]),(6,[]),(7,[2]),(8,[])] ?_;refine aT ?_;refine mI ?_;refine gV ?_;refine gV ?_;refine bB (i:=7) (hq:=(cM (hs:=xH k bx bm x35.2 dn rs) (os:=xW x35.2) (hc:=λ w hs=>Gz x18.1 x35.1 _ (by have:=h29.len;have:=h35.len;omega) h35.go h35.ok hs))) (h:=λ x43 h43=>?_);refine bB (i:=8) (hq:=(cM (hs:=xH k bx bm x35.2 dn rs) (os:=xW x35.2) (hc:=λ w hs=>vU hg t.root x18.1 x43 _ ht h43.2 h43.1 h35.ok hs))) (h:=λ x44 h44=>?_);refine eJ ?_;refine mJ ?_;refine Cb ?_
  (refine dX 50 (λ g50=>?_) (λ g50=>?_)<;>(first|refine aI ?_|(refine aE ?_;refine aA ?_)))
  all_goals (refine vW ?_;refine J1 ?_)
  all_goals
  refine aQ Tryz.results180 (λ w hw=>?_)
  first
   | (obtain⟨N,hN,hf⟩:=(Ch.nx h29 ((Ch.base (F:=[])).nx h18 |>.vf h24)) |>.vf h35 |>.vf h44 |>.to h44 h44.go (by have:=h18.lc;have:=h24.lc;have:=h29.lc;have:=h35.lc;have:=h44.lc;omega) (bI _);exact⟨(x35.1==1,x44.2,N),rfl,hN,(hw.eU hf).aV (hF:=by exact aW.all)⟩)
   | (obtain⟨N,hN,hf⟩:=(Ch.nx h29 ((Ch.base (F:=[])).nx h18 |>.vf h24)) |>.vf h35 |>.vf h44 |>.to (t':=K false) h44 (h44.go.bW (by assumption)) (by have:=h18.lc;have:=h24.lc;have:=h29.lc;have:=h35.lc;have:=h44.lc;omega) (bI _);exact⟨(false,x44.2,N),rfl,hN,(hw.eU hf).aV (hF:=by exact aW.all)⟩)
theorem B3(hg:g.Ok)(c index r:Int)(K:Int->Tr)(hc:c<=x.L.length)(hr:r<=x.L.length)(hA:∀f∈aM x.L,f∈A)(go:fV g x (Ht c index r K))(ok:x.Ok)(hs:SF w D (xH k bx bm x dn rs) A [] (xW x) w):Calls Tryz.prog 217 #[.pointer (some ⟨bx,0,none⟩),.int .i64 c,.int .i64 index,.int .i64 r] w λ e w'=>∃q:Int×XS×List aP,e=.returned (.int .i64 q.1)/\Nx g x q.2.1 q.2.2 (K q.1) q.1/\SF w D (xH k bx bm q.2.1 dn rs) [] (aM q.2.2) (xW q.2.1) w':=by
 refine enter Tryz.func217 Tryz.ntmps217 rfl rfl (cA hs) ?_
 simp only[cD]
 refine cP ?_;refine jA ?_;refine aD (cM (hs:=xH k bx bm x dn rs) (os:=xW x) (hc:=λ w hs=>cG c _ hc go ok hs)) (λ x14 h14=>?_);refine pD ?_;refine aD (cF (hc:=λ w1 hw=>r9 (v:=aB x.L c) (ok.nv c) index r (ok.rQ hw hA c))) (λ x17 h17=>?_);refine Lc ?_;refine aJ (λ x9=>?_);refine Bi ?_;refine J2 ?_;refine bP ?_;refine aA ?_;refine aD (cM (hs:=xH k bx bm x dn rs) (os:=xW x) (A0:=[((mK (Qv (aB x.L c) index r) x17).brA,aG (mC (Qv (aB x.L c) index r))),((mK (Qv (aB x.L c) index r) x17).prA,cR [])]) (hA:=Sj) (hc:=λ w hs=>gQ hg (n:=mK (Qv (aB x.L c) index r) x17) (xs:=mC (Qv (aB x.L c) index r)) (ys:=[]) c _ (Ef _ _) (Eb _ _) (ir (ok.nv c) hr index).len (Nat.zero_le _) ((ir (ok.nv c) hr index).nvB _) hc (by rw[<- aAS (ok.nv c)];exact h14.1) ok hs)) (λ x23 h23=>?_);refine J1 ?_
 refine aQ Tryz.results217 (λ w hw=>?_)
 exact⟨x23,rfl,h23,hw.aV (hF:=by exact aW.iI λ f hf=>List.mem_append_left _ hf)⟩
end
end

end Go.Proofs.YtbajmaoegmbfgaaGreat
