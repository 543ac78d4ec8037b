/- Executions of the reference: READ, DECIDE, HELP, GCAS, RDCSS. -/
import Derived.Test.YtbajmaoegmbfgaaGreatGEx6

set_option linter.unusedSimpArgs false
set_option linter.unusedVariables false
namespace Go.Ct
section
theorem Zx{n c:Nat}{a b d:Int}(h1:a<=n)(h2:b<=n)(h3:d<=n):mB n c {(({Nd.zero with kind:=8,bA:=a,exp:=b,new:=d}:Nd).c [] []) with main:=0,prev:=0,status:=0}:=⟨h1,h2,h3,(λ r hr=>nomatch hr),bL _,bL _,bL _,⟨0,rfl,by decide⟩,⟨0,rfl,by decide⟩⟩
end
end Go.Ct
namespace Go.Proofs.YtbajmaoegmbfgaaGreat
section
open Go Go.RowKit Go.Ct
section
variable{k:Cl}{bx bm:Nat}{x:XS}{dn:Bool}{rs:Rs}{D:List Nat}{A:Fr}{w:World}{g:Gx}
theorem oZ(hg:g.Ok)(t:eQ)(i:Int)(K:Int->Tr)(ht:t.root<=9223372036854775807)(hi:i<=x.L.length)(go:gD g x (lR t i K))(ok:x.Ok)(hs:SF w D (xH k bx bm x dn rs) A [] (xW x) w):Calls Tryz.prog 177 #[.pointer (some ⟨bx,0,none⟩),Nw t,.int .i64 i] w λ e w'=>∃q:Int×XS×List aP,e=.returned (.int .i64 q.1)/\Nx g x q.2.1 q.2.2 (K q.1) q.1/\SF w D (xH k bx bm q.2.1 dn rs) [] (aL q.2.2) (xW q.2.1) w':=by
 refine enter Tryz.func177 Tryz.ntmps177 rfl rfl (cD hs) ?_
 simp only[cA]
 simp only[Nw]
 refine J0 ?_;refine bK (λ x4=>?_);refine iZ ?_;refine eG [(0,[]),(1,[]),(2,[]),(3,[]),(4,[]),(5,[]),(6,[1]),(7,[]),(8,[1]),(9,[]),(10,[])] ?_;refine aT ?_;refine Ka9 ?_;refine iF ?_;refine bC (i:=6) (hq:=(cM (hs:=xH k bx bm x dn rs) (os:=xW x) (hc:=λ w hs=>cJ i _ hi go ok hs))) (h:=λ x13 h13=>?_);refine mZ ?_;refine bC (i:=8) (hq:=(cM (hs:=xH k bx bm x dn rs) (os:=xW x) (hc:=λ w hs=>qR hg (aB x.L i).nd.main _ (h13.2.i64 ok.lL ok.lc).2.2.2.1 h13.1 ok hs))) (h:=λ x15 h15=>?_);refine bC (i:=9) (hq:=(cM (hs:=xH k bx bm x15.2 dn rs) (os:=xW x15.2) (hc:=λ w hs=>Pt hg t i x15.1 _ ht (by have:=h15.len;omega) h15.bd h15.go h15.ok hs))) (h:=λ x16 h16=>?_);refine J7 ?_
 refine aQ Tryz.results177 (λ w hw=>?_)
 exact⟨x16,rfl,h15.trans h16,by rw[List.append_nil] at hw;exact hw.aX (hF:=by exact aV.all)⟩
theorem Rf(hg:g.Ok)(t:eQ)(v:Int)(K:Tr)(ht:t.root<=9223372036854775807)(hv:v<=x.L.length)(go:gD g x (lG t v K))(ok:x.Ok)(hs:SF w D (xH k bx bm x dn rs) A [] (xW x) w):Calls Tryz.prog 213 #[.pointer (some ⟨bx,0,none⟩),Nw t,.int .i64 v] w λ e w'=>∃q:XS×List aP,e=.returned (.tuple #[])/\Nx g x q.1 q.2 K 0/\SF w D (xH k bx bm q.1 dn rs) [] (aL q.2) (xW q.1) w':=by
 refine enter Tryz.func213 Tryz.ntmps213 rfl rfl (cD hs) ?_
 simp only[cA]
 simp only[Nw]
 refine J0 ?_;refine bK (λ x4=>?_);refine aG ?_;refine Gi ?_;refine aS ?_;refine eG [(0,[]),(1,[]),(2,[]),(3,[]),(7,[]),(8,[]),(4,[1]),(5,[]),(6,[]),(9,[]),(10,[]),(11,[])] ?_;refine aT ?_;refine Ka9 ?_;refine iF ?_;refine bC (i:=4) (hq:=(cM (hs:=xH k bx bm x dn rs) (os:=xW x) (hc:=λ w hs=>cJ v _ hv go ok hs))) (h:=λ x11 h11=>?_);refine mZ ?_;refine bC (i:=6) (hq:=(cM (hs:=xH k bx bm x dn rs) (os:=xW x) (hc:=λ w hs=>oZ hg t (aB x.L v).nd.bA _ ht h11.2.bA h11.1 ok hs))) (h:=λ x13 h13=>?_);refine bC (i:=9) (hq:=(cM (hs:=xH k bx bm x13.2.1 dn rs) (os:=xW x13.2.1) (hc:=λ w hs=>cJ v _ (by have:=h13.len;omega) h13.go h13.ok hs))) (h:=λ x16 h16=>?_);refine mZ ?_;refine nJ ?_;refine eU ?_
 refine bD (λ c18=>?_) (λ c18=>?_)
 ·have gx:gD g x13.2.1 (.node v λ n3=>.hY n3.status 0 1 λ _=>K):=h16.1.to (λ _=>by rw[show x13.1=(aB x13.2.1.L v).c.exp from c18];simp only[if_true])
  have h2e:(1:Int)<=x13.2.1.L.length:=by have:=h13.ok.two;omega
  refine dG ?_;refine J1 ?_;refine Aa ?_;refine pV ?_;refine aD (cM (hs:=xH k bx bm x13.2.1 dn rs) (os:=xW x13.2.1) (hc:=λ w hs=>cJ v _ (by have:=h13.len;omega) gx h13.ok hs)) (λ x22 h22=>?_);refine cC ?_;refine aA ?_;(refine aN (by exact cM (hs:=xH k bx bm x13.2.1 dn rs) (os:=xW x13.2.1) (hc:=λ w hs=>vZ hg (aB x13.2.1.L v).nd.status 0 1 _ (h22.2.i64 h13.ok.lL h13.ok.lc).2.2.2.2.2 h2e h22.1 h13.ok hs)) (λ x25=>?_);try (refine eN (λ h25=>?_)));refine aG ?_
  refine Eg Tryz.results213 (λ w hw=>?_)
  rw[List.append_nil] at hw
  exact⟨(x25.2,x13.2.2),rfl,(h13.trans h25).ext' h25.go (bL _),hw.aX (hF:=by exact aV.all)⟩
 ·have gx:gD g x13.2.1 (.node v λ n3=>.hY n3.status 0 2 λ _=>K):=h16.1.to (λ _=>by simp only[if_neg (show ¬x13.1=(aB x13.2.1.L v).c.exp from c18)])
  have h2e:(2:Int)<=x13.2.1.L.length:=by have:=h13.ok.two;omega
  refine aW ?_;refine Aa ?_;refine pV ?_;refine aD (cM (hs:=xH k bx bm x13.2.1 dn rs) (os:=xW x13.2.1) (hc:=λ w hs=>cJ v _ (by have:=h13.len;omega) gx h13.ok hs)) (λ x22 h22=>?_);refine cC ?_;refine aA ?_;(refine aN (by exact cM (hs:=xH k bx bm x13.2.1 dn rs) (os:=xW x13.2.1) (hc:=λ w hs=>vZ hg (aB x13.2.1.L v).nd.status 0 2 _ (h22.2.i64 h13.ok.lL h13.ok.lc).2.2.2.2.2 h2e h22.1 h13.ok hs)) (λ x25=>?_);try (refine eN (λ h25=>?_)));refine aG ?_
  refine Eg Tryz.results213 (λ w hw=>?_)
  rw[List.append_nil] at hw
  exact⟨(x25.2,x13.2.2),rfl,(h13.trans h25).ext' h25.go (bL _),hw.aX (hF:=by exact aV.all)⟩
theorem Cq(hg:g.Ok)(t:eQ)(K:Int->Tr)(ht:t.root<=9223372036854775807)(go:gD g x (mL t K))(ok:x.Ok)(hs:SF w D (xH k bx bm x dn rs) A [] (xW x) w):Calls Tryz.prog 179 #[.pointer (some ⟨bx,0,none⟩),Nw t] w λ e w'=>∃q:Int×XS×List aP,e=.returned (.int .i64 q.1)/\Nx g x q.2.1 q.2.2 (K q.1) q.1/\SF w D (xH k bx bm q.2.1 dn rs) [] (aL q.2.2) (xW q.2.1) w':=by
 refine enter Tryz.func179 Tryz.ntmps179 rfl rfl (cD hs) ?_
 simp only[cA]
 simp only[Nw]
 refine J0 ?_;refine bK (λ x3=>?_);refine Ka4 ?_;refine J3 ?_;refine aD (cM (hs:=xH k bx bm x dn rs) (os:=xW x) (hc:=λ w hs=>qR hg t.root _ ht go ok hs)) (λ x11 h11=>?_);refine iZ ?_;refine mA ?_;refine aA ?_
 (refine dZ 16 (λ g16=>?_) (λ g16=>?_)<;>refine Ka0 ?_)
 all_goals (refine Ka0 ?_;(first|refine aI ?_|(refine aE ?_;refine aD (cM (hs:=xH k bx bm x11.2 dn rs) (os:=xW x11.2) (hc:=λ w hs=>cJ x11.1 _ h11.bd h11.go h11.ok hs)) (λ x19 h19=>?_)));refine J87 ?_;refine aG ?_)
 all_goals
 refine bD (λ c22=>?_) (λ c22=>?_)
 ·all_goals (refine Ka5 ?_)
  all_goals
   refine aQ Tryz.results179 (λ w hw=>?_)
   exact⟨(x11.1,x11.2,[]),rfl,h11.cI (by first|exact h11.go.bU (by assumption)|exact h19.1.to (λ _=>if_pos (by assumption))) h11.bd,hw.aX (hF:=by exact aV.nil)⟩
 ·try exact nv c22
  all_goals
   have g1:=h19.1.to (λ _=>if_neg c22)
   have hb1:=h19.2.i64 h11.ok.lL h11.ok.lc
  all_goals (refine El ?_;refine aA ?_;refine aD (cM (hs:=xH k bx bm x11.2 dn rs) (os:=xW x11.2) (hc:=λ w hs=>cJ x11.1 _ h11.bd g1 h11.ok hs)) (λ x27 h27=>?_);refine cC ?_;refine aD (cM (hs:=xH k bx bm x11.2 dn rs) (os:=xW x11.2) (hc:=λ w hs=>qR hg (aB x11.2.L x11.1).nd.status _ hb1.2.2.2.2.2 h27.1 h11.ok hs)) (λ x29 h29=>?_);refine iZ ?_)
  all_goals
   refine dX [6,30,31,32,33,34,35,36,37,38,39,40,41] (λ q:Int×XS×List aP=>[(6,.int .i64 q.1)]) (λ q=>Nx g x q.2.1 q.2.2 (iE t x11.1 q.1 K) 0/\x11.1<=q.2.1.L.length) (λ q=>[(x3,.cells ⟨[.int .i64 t.root,.bool t.ro]⟩ 29 (0,0)),(bx,xO k bm q.2.1 dn rs),(bm,xM q.2.1)]) (λ q=>aL q.2.2) (λ q=>xW q.2.1) (by decide) (λ _=>by exact rfl) ?_ (λ q f hx=>?_)
   ·refine aS ?_
    refine Aa ?_;refine sU ?_
    refine bD (λ c31=>?_) (λ c31=>?_)
    ·have g2:=h29.go.to (λ _=>if_pos c31)
     have hv2:x11.1<=x29.2.L.length:=by have:=h29.len;have:=h11.bd;omega
     refine Kb7 ?_;refine aA ?_;refine aD (cM (hs:=xH k bx bm x29.2 dn rs) (os:=xW x29.2) (hc:=λ w hs=>Rf hg t x11.1 _ ht hv2 g2 h29.ok hs)) (λ x35 h35=>?_);refine aG ?_;refine Aa ?_;refine pV ?_;refine aD (cM (hs:=xH k bx bm x35.1 dn rs) (os:=xW x35.1) (hc:=λ w hs=>cJ x11.1 _ (by have:=h35.len;omega) h35.go h35.ok hs)) (λ x39 h39=>?_);refine cC ?_;refine aD (cM (hs:=xH k bx bm x35.1 dn rs) (os:=xW x35.1) (hc:=λ w hs=>qR hg (aB x35.1.L x11.1).nd.status _ (h39.2.i64 h35.ok.lL h35.ok.lc).2.2.2.2.2 h39.1 h35.ok hs)) (λ x41 h41=>?_);refine J1 ?_
     refine eE ((x41.1,x41.2,x35.2)) ?_ (hw1:=λ w hw=>by rw[List.append_nil] at hw;exact hw.back (hF:=by exact aV.all))
     ·exact⟨((h11.trans h29).trans (h35.trans h41)).ext' h41.go (bL _),(show x11.1<=(x41.2.L.length:Int) by have:=h35.len;have:=h41.len;omega)⟩
    ·have g2:=h29.go.to (λ _=>if_neg c31)
     have hv2:x11.1<=x29.2.L.length:=by have:=h29.len;have:=h11.bd;omega
     refine aW ?_
     refine eE ((x29.1,x29.2,[])) ?_ (hw1:=λ w hw=>hw.back (hF:=by exact aV.nil))
     ·exact⟨(h11.trans h29).cI g2 (bL _),hv2⟩
   dsimp only[hX,List.map,List.cons_append,List.nil_append]
  all_goals (refine Kb8 ?_;refine aD (cM (hs:=xH k bx bm q.2.1 dn rs) (os:=xW q.2.1) (hc:=λ w hs=>Fh x11.1 q.1 _ hx.2 hx.1.go hx.1.ok hs)) (λ x45 h45=>?_);refine Ka4 ?_;refine J3 ?_;refine pV ?_;refine aD (cM (hs:=xH k bx bm q.2.1 dn rs) (os:=xW q.2.1) (hc:=λ w hs=>vZ hg t.root x11.1 x45 _ ht h45.2 h45.1 hx.1.ok hs)) (λ x51 h51=>?_);refine aG ?_;refine Ka5 ?_)
  all_goals
   refine aQ Tryz.results179 (λ w hw=>?_)
   exact⟨(x45,x51.2,q.2.2),rfl,(hx.1.trans h51).ext' h51.go (by have:=h51.len;have:=h45.2;omega),hw.aX (hF:=by exact aV.all)⟩
theorem uK(hg:g.Ok)(t:eQ)(i bA n:Int)(K:Bool->Tr)(ht:t.root<=9223372036854775807)(hi:i<=x.L.length)(hn:n<=x.L.length)(go:gD g x (oS t i bA n K))(ok:x.Ok)(hs:SF w D (xH k bx bm x dn rs) A [] (xW x) w):Calls Tryz.prog 178 #[.pointer (some ⟨bx,0,none⟩),Nw t,.int .i64 i,.int .i64 bA,.int .i64 n] w λ e w'=>∃q:Bool×XS×List aP,e=.returned (.bool q.1)/\Nx g x q.2.1 q.2.2 (K q.1) 0/\SF w D (xH k bx bm q.2.1 dn rs) [] (aL q.2.2) (xW q.2.1) w':=by
 refine enter Tryz.func178 Tryz.ntmps178 rfl rfl (cD hs) ?_
 simp only[cA]
 simp only[Nw]
 refine J0 ?_;refine bK (λ x6=>?_);refine iZ ?_;refine Kb8 ?_;refine aD (cM (hs:=xH k bx bm x dn rs) (os:=xW x) (hc:=λ w hs=>cJ i _ hi go ok hs)) (λ x15 h15=>?_);refine cC ?_;refine pV ?_;refine aD (cM (hs:=xH k bx bm x dn rs) (os:=xW x) (hc:=λ w hs=>vZ hg (aB x.L i).nd.main bA n _ (h15.2.i64 ok.lL ok.lc).2.2.2.1 hn h15.1 ok hs)) (λ x19 h19=>?_);refine pE ?_
 refine bD (λ c20=>?_) (λ c20=>?_)
 ·refine cS ?_
  refine aQ Tryz.results178 (λ w hw=>?_)
  exact⟨(false,x19.2,[]),rfl,h19.cI (h19.go.to (λ _=>if_neg (by simpa using c20))) (bL _),hw.aX (hF:=by exact aV.nil)⟩
 ·have g1:=h19.go.to (λ _=>if_pos (by simpa using c20))
  have hl19:=h19.len
  refine aW ?_;refine Kb7 ?_;refine pV ?_;refine aD (cM (hs:=xH k bx bm x19.2 dn rs) (os:=xW x19.2) (hc:=λ w hs=>Pt hg t i n _ ht (by omega) (by omega) g1 h19.ok hs)) (λ x25 h25=>?_);refine J1 ?_;refine mA ?_;refine Bq ?_
  (refine dZ 31 (λ g31=>?_) (λ g31=>?_)<;>refine Ka0 ?_)
  all_goals (refine Ka0 ?_;refine xT ?_;refine J1 ?_)
  all_goals
  refine aQ Tryz.results178 (λ w hw=>?_)
  rw[List.append_nil] at hw
  first
   | exact⟨(x25.1==n,x25.2.1,x25.2.2),rfl,(h19.trans h25).cI h25.go (bL _),hw.aX (hF:=by exact aV.all)⟩
   | exact⟨(false,x25.2.1,x25.2.2),rfl,(h19.trans h25).cI (h25.go.bU (by assumption)) (bL _),hw.aX (hF:=by exact aV.all)⟩
end
end

/- Executions of the reference: RDCSS, RENEW; functions that read lists of nodes. -/
end Go.Proofs.YtbajmaoegmbfgaaGreat
namespace Go.Ct
section
open Go Go.RowKit
theorem Ch.to{g:Gx}{x0 x X:XS}{F:Fr}{N:List aP}{t t':Tr}{b b':Int}(h:Ch x0 X F)(h2:Nx g x X N t b)(go:gD g X t')(hc:x0.cs.length<=X.cs.length)(hb:b'<=X.L.length):∃N,Nx g x0 X N t' b'/\∀f∈aL N,f.2=[]∨f∈F:=by
 obtain⟨N,h3,h4⟩:=h
 exact⟨N,⟨go,h2.ok,h3,hc,hb⟩,h4⟩
theorem XS.Ok.sF{w0 w:World}{M:List Nat}{H:List (Nat×Obj)}{A F:Fr}{O:List Ow}{x:XS}(ok:x.Ok)(h:SF w0 M H A F O w)(hA:∀f∈aL x.L,f∈A)(r:Int):sE w (aB x.L r).nd (aB x.L r).xs (aB x.L r).ys:=h.ak (Ch.base (F:=F)) hA ok r
end
end Go.Ct
namespace Go.Proofs.YtbajmaoegmbfgaaGreat
section
open Go Go.RowKit Go.Ct
structure wY(n:Nat)(o:Option (Nat×List Int)):Prop where
 out:∀q,o=some q->q.1<18446744073709551616/\q.2.length<=64/\∀r∈q.2,r<=n
theorem Z1{b:Nat}{xs:List Int}(h:BV b xs):xs.length<=64:=by rw[h.len];exact Af b 64
theorem r9{xs:List Int}{p:Nat}{r v:Int}(h:v∈zL xs p r):v∈xs∨v=r:=by
 unfold zL at h
 rcases List.mem_append.1 h with h|h
 ·exact .inl (List.mem_of_mem_take h)
 ·rcases List.mem_cons.1 h with h|h
  ·exact .inr h
  ·exact .inl (List.mem_of_mem_drop h)
theorem qs{xs:List Int}{p:Nat}{r v:Int}(h:v∈wV xs p r):v∈xs∨v=r:=by
 unfold wV at h
 rcases List.mem_append.1 h with h|h
 ·exact .inl (List.mem_of_mem_take h)
 ·rcases List.mem_cons.1 h with h|h
  ·exact .inr h
  ·exact .inl (List.mem_of_mem_drop h)
theorem uh{xs:List Int}{p:Nat}{v:Int}(h:v∈sB xs p):v∈xs:=by
 unfold sB at h
 rcases List.mem_append.1 h with h|h
 ·exact List.mem_of_mem_take h
 ·exact List.mem_of_mem_drop h
section
variable{n:Nd}{xs:List Int}{ys:List Pr}{b m:Nat}
theorem sd(hb:n.bm=(b:Int))(hb2:b<18446744073709551616)(hx:∀r∈xs,r<=m){r:Int}(hr:r<=m)(i:Int):wY m (nq n xs ys b i r):=⟨λ q hq=>by
 unfold nq at hq
 split at hq
 ·rename_i h
  cases hq
  obtain⟨h1,h2,h3⟩:=h
  have hv:=h1.bv hb hb2
  obtain⟨e1,e2,e3,e4⟩:=sK h3
  have:=(Tu hv (i:=i.toNat) (by omega) e3 h2).1
  rw[<- e4] at this
  exact⟨this.lt,Z1 this,λ v hv=>(r9 hv).elim (hx v) (λ e=>e▸hr)⟩
 ·cases hq⟩
theorem oj(hb:n.bm=(b:Int))(hb2:b<18446744073709551616)(hx:∀r∈xs,r<=m){r:Int}(hr:r<=m)(i:Int):wY m (n0 n xs ys b i r):=⟨λ q hq=>by
 unfold n0 at hq
 split at hq
 ·rename_i h
  cases hq
  obtain⟨h1,h0,h2,h3⟩:=h
  have hv:=h1.bv hb hb2
  have e:i=((i.toNat:Nat):Int):=by omega
  have hk:i.toNat<64:=by omega
  rw[e] at h3 ⊢
  rw[qP b hk] at h3
  have:=(Ft hv (i:=i.toNat) hk h3 h2).1
  rw[pW b hk,oN b hk]
  exact⟨this.lt,Z1 this,λ v hv=>(qs hv).elim (hx v) (λ e=>e▸hr)⟩
 ·cases hq⟩
theorem ru(hb:n.bm=(b:Int))(hb2:b<18446744073709551616)(hx:∀r∈xs,r<=m)(i:Int):wY m (nz n xs ys b i):=⟨λ q hq=>by
 unfold nz at hq
 split at hq
 ·rename_i h
  cases hq
  obtain⟨h1,h3⟩:=h
  have hv:=h1.bv hb hb2
  obtain⟨e1,e2,e3,e4⟩:=sK h3
  have hk:i.toNat<64:=by omega
  have:=(T4 hv (i:=i.toNat) hk e3).1
  have e:i=((i.toNat:Nat):Int):=by omega
  rw[e,tY b hk,oN b hk]
  exact⟨this.lt,Z1 this,λ v hv=>hx v (uh hv)⟩
 ·cases hq⟩
end
theorem wY.nvB{m c:Nat}{o:Option (Nat×List Int)}(h:wY m o)(x:Option Addr×Nat):mB m c {(nD o x).c (mU o) [] with main:=0,prev:=0,status:=0}:=by
 rw[Fz]
 cases o with
 | none=>exact⟨bL _,bL _,bL _,(λ r hr=>nomatch hr),bL _,bL _,bL _,⟨0,rfl,by decide⟩,⟨0,rfl,by decide⟩⟩
 | some q =>
  have h1:=h.out q rfl
  exact⟨bL _,bL _,bL _,h1.2.2,bL _,bL _,bL _,⟨q.1,rfl,h1.1⟩,⟨0,rfl,by decide⟩⟩
theorem wY.len{m:Nat}{o:Option (Nat×List Int)}(h:wY m o):(mU o).length<=274877906944:=by
 cases o with
 | none=>exact Nat.zero_le _
 | some q=>exact Nat.le_trans (h.out q rfl).2.1 (by decide)
theorem Ew(o:Option (Nat×List Int))(x:Option Addr×Nat):(nD o x).brN=(mU o).length:=by cases o<;>rfl
theorem Et(o:Option (Nat×List Int))(x:Option Addr×Nat):(nD o x).prN=([]:List Pr).length:=by cases o<;>rfl
theorem Sw{A F:Fr}{O:List Ow}{o:Option (Nat×List Int)}{x:Option Addr×Nat}:bB A ((x.1,aH (mU o))::F) O [((nD o x).brA,aH (mU o)),((nD o x).prA,cZ [])]:=by
 cases o with
 | none=>exact .cons (.inl rfl) (.cons (.inl rfl) .nil)
 | some q=>exact .cons (.inr (.inr (.inl (.head _)))) (.cons (.inl rfl) .nil)
section
variable{v:aP}{n c:Nat}{w:World}
theorem eZ(h:mB n c v.c):v.nd.bm=((v.c.bm.toNat:Nat):Int)/\v.c.bm.toNat<18446744073709551616:=by
 obtain⟨b,h1,h2⟩:=h.bm
 have h3:v.nd.bm=(b:Int):=h1
 have h4:v.c.bm=(b:Int):=h1
 rw[h3,h4]
 exact⟨by simp,by simpa using h2⟩
theorem Jj(h:mB n c v.c)(i:Int)(hr:sE w v.nd v.xs v.ys):Calls Tryz.prog 216 #[v.nd.v,.int .i64 i] w λ e w'=>e=.returned (.tuple #[.int .i64 ((mE v.c i).getD 0),.bool (mE v.c i).isSome])/\St w [] [] w':=by
 have h1:=eZ h
 have:=oL (n:=v.nd) i h1.1 h1.2 hr
 rw[aBV h1.1 i] at this
 exact this
theorem qK(h:mB n c v.c)(i:Int):(mE v.c i).getD 0<=n:=by
 have h1:=eZ h
 have e:=aBV (xs:=v.xs) (ys:=v.ys) h1.1 i
 rw[show mE v.c i=mE (v.nd.c v.xs v.ys) i from rfl,<- e]
 unfold L7
 split
 ·exact mN h.br _
 ·exact bL _
noncomputable abbrev Rt (v:aP) (i r:Int):Option (Nat×List Int):=nq v.nd v.xs v.ys v.c.bm.toNat i r
noncomputable abbrev Zt (v:aP) (i r:Int):Option (Nat×List Int):=n0 v.nd v.xs v.ys v.c.bm.toNat i r
noncomputable abbrev dq (v:aP) (i:Int):Option (Nat×List Int):=nz v.nd v.xs v.ys v.c.bm.toNat i
theorem aBn(h:mB n c v.c)(i r:Int)(x:Option Addr×Nat):ir v.c i r=(nD (Rt v i r) x).c (mU (Rt v i r)) []:=by
 rw[Fz]
 exact(aB0 (eZ h).1 i r).symm
theorem aBF(h:mB n c v.c)(i r:Int)(x:Option Addr×Nat):xd v.c i r=(nD (Zt v i r) x).c (mU (Zt v i r)) []:=by
 rw[Fz]
 exact(aCo (eZ h).1 i r).symm
theorem vp(h:mB n c v.c)(i:Int)(x:Option Addr×Nat):Nr v.c i=(nD (dq v i) x).c (mU (dq v i)) []:=by
 rw[Fz]
 exact(aBL (eZ h).1 i).symm
theorem wg(h:mB n c v.c)(i r:Int)(hr:sE w v.nd v.xs v.ys):Calls Tryz.prog 220 #[v.nd.v,.int .i64 i,.int .i64 r] w (X8 w (Rt v i r)):=Li (n:=v.nd) i r (eZ h).1 (eZ h).2 hr
theorem Z4(h:mB n c v.c)(i r:Int)(hr:sE w v.nd v.xs v.ys):Calls Tryz.prog 249 #[v.nd.v,.int .i64 i,.int .i64 r] w (X8 w (Zt v i r)):=I7 (n:=v.nd) i r (eZ h).1 (eZ h).2 hr
theorem aAT(h:mB n c v.c)(i:Int)(hr:sE w v.nd v.xs v.ys):Calls Tryz.prog 252 #[v.nd.v,.int .i64 i] w (X8 w (dq v i)):=Mu (n:=v.nd) i (eZ h).1 (eZ h).2 hr
theorem di(h:mB n c v.c){r:Int}(hr:r<=n)(i:Int):wY n (Rt v i r):=sd (eZ h).1 (eZ h).2 h.br hr i
theorem aA1(h:mB n c v.c){r:Int}(hr:r<=n)(i:Int):wY n (Zt v i r):=oj (eZ h).1 (eZ h).2 h.br hr i
theorem aBQ(h:mB n c v.c)(i:Int):wY n (dq v i):=ru (eZ h).1 (eZ h).2 h.br i
end
theorem sI{n c:Nat}{g:Int}:mB n c {(({Nd.zero with kind:=2,gen:=g}:Nd).c [] []) with main:=0,prev:=0,status:=0}:=⟨bL _,bL _,bL _,(λ r hr=>nomatch hr),bL _,bL _,bL _,⟨0,rfl,by decide⟩,⟨0,rfl,by decide⟩⟩
section
variable{k:Cl}{bx bm:Nat}{x:XS}{dn:Bool}{rs:Rs}{D:List Nat}{A:Fr}{w:World}{g:Gx}
theorem L5(hg:g.Ok)(t:eQ)(o ex n:Int)(K:Bool->Tr)(ht:t.root<=9223372036854775807)(ho:o<=x.L.length)(he:ex<=x.L.length)(hn:n<=x.L.length)(go:gD g x (lP t o ex n K))(ok:x.Ok)(hs:SF w D (xH k bx bm x dn rs) A [] (xW x) w):Calls Tryz.prog 180 #[.pointer (some ⟨bx,0,none⟩),Nw t,.int .i64 o,.int .i64 ex,.int .i64 n] w λ e w'=>∃q:Bool×XS×List aP,e=.returned (.bool q.1)/\Nx g x q.2.1 q.2.2 (K q.1) 0/\SF w D (xH k bx bm q.2.1 dn rs) [] (aL q.2.2) (xW q.2.1) w':=by
 refine enter Tryz.func180 Tryz.ntmps180 rfl rfl (cD hs) ?_
 simp only[cA]
 simp only[Nw]
 refine J0 ?_;refine bK (λ x6=>?_);refine Ai ?_;refine pV ?_;refine bI ?_;refine aD (cM (hs:=xH k bx bm x dn rs) (os:=xW x) (A0:=[(none,aH []),(none,cZ [])]) (hc:=λ w hs=>hU hg (n:={Nd.zero with kind:=8,bA:=o,exp:=ex,new:=n}) (xs:=[]) (ys:=[]) 0 _ rfl rfl (by decide) (Nat.zero_le _) (Zx ho he hn) (bL _) go ok hs)) (λ x18 h18=>?_);refine Kc3 ?_;refine J3 ?_;refine pV ?_;refine aD (cM (hs:=xH k bx bm x18.2.1 dn rs) (os:=xW x18.2.1) (hc:=λ w hs=>vZ hg t.root o x18.1 _ ht h18.bd h18.go h18.ok hs)) (λ x24 h24=>?_);refine pE ?_
 refine bD (λ c25=>?_) (λ c25=>?_)
 ·refine cS ?_
  refine aQ Tryz.results180 (λ w hw=>?_)
  obtain⟨N,hN,hf⟩:=(Ch.base (F:=[])).nx h18 |>.y6 h24 |>.to h24 (h24.go.to (λ _=>if_neg (by simpa using c25))) (by have:=h18.lc;have:=h24.lc;omega) (bL _)
  exact⟨(false,x24.2,N),rfl,hN,(hw.eY hf).aX (hF:=by exact aV.all)⟩
 ·have g1:=h24.go.to (λ _=>if_pos (by simpa using c25))
  have hl24:=h24.len
  have hb18:=h18.bd
  refine aW ?_;refine Kb7 ?_;refine aA ?_;refine aD (cM (hs:=xH k bx bm x24.2 dn rs) (os:=xW x24.2) (hc:=λ w hs=>Rf hg t x18.1 _ ht (by omega) g1 h24.ok hs)) (λ x29 h29=>?_);refine aG ?_;refine Kb8 ?_;refine aD (cM (hs:=xH k bx bm x29.1 dn rs) (os:=xW x29.1) (hc:=λ w hs=>cJ x18.1 _ (by have:=h29.len;omega) h29.go h29.ok hs)) (λ x33 h33=>?_);refine cC ?_;refine aD (cM (hs:=xH k bx bm x29.1 dn rs) (os:=xW x29.1) (hc:=λ w hs=>qR hg (aB x29.1.L x18.1).nd.status _ (h33.2.i64 h29.ok.lL h29.ok.lc).2.2.2.2.2 h33.1 h29.ok hs)) (λ x35 h35=>?_);refine iZ ?_;refine eG [(0,[]),(1,[]),(2,[]),(3,[]),(4,[]),(5,[]),(6,[]),(7,[2]),(8,[])] ?_;refine aT ?_;refine nA ?_;refine iF ?_;refine iF ?_;refine bC (i:=7) (hq:=(cM (hs:=xH k bx bm x35.2 dn rs) (os:=xW x35.2) (hc:=λ w hs=>Fh x18.1 x35.1 _ (by have:=h29.len;have:=h35.len;omega) h35.go h35.ok hs))) (h:=λ x43 h43=>?_);refine bC (i:=8) (hq:=(cM (hs:=xH k bx bm x35.2 dn rs) (os:=xW x35.2) (hc:=λ w hs=>vZ hg t.root x18.1 x43 _ ht h43.2 h43.1 h35.ok hs))) (h:=λ x44 h44=>?_);refine eU ?_;refine mA ?_;refine Bq ?_
  (refine dZ 50 (λ g50=>?_) (λ g50=>?_)<;>refine Ka0 ?_)
  all_goals (refine xT ?_;refine J1 ?_)
  all_goals
  refine aQ Tryz.results180 (λ w hw=>?_)
  first
   | (obtain⟨N,hN,hf⟩:=(Ch.nx h29 ((Ch.base (F:=[])).nx h18 |>.y6 h24)) |>.y6 h35 |>.y6 h44 |>.to h44 h44.go (by have:=h18.lc;have:=h24.lc;have:=h29.lc;have:=h35.lc;have:=h44.lc;omega) (bL _);exact⟨(x35.1==1,x44.2,N),rfl,hN,(hw.eY hf).aX (hF:=by exact aV.all)⟩)
   | (obtain⟨N,hN,hf⟩:=(Ch.nx h29 ((Ch.base (F:=[])).nx h18 |>.y6 h24)) |>.y6 h35 |>.y6 h44 |>.to (t':=K false) h44 (h44.go.bU (by assumption)) (by have:=h18.lc;have:=h24.lc;have:=h29.lc;have:=h35.lc;have:=h44.lc;omega) (bL _);exact⟨(false,x44.2,N),rfl,hN,(hw.eY hf).aX (hF:=by exact aV.all)⟩)
theorem C5(hg:g.Ok)(c index r:Int)(K:Int->Tr)(hc:c<=x.L.length)(hr:r<=x.L.length)(hA:∀f∈aL x.L,f∈A)(go:gD g x (G8 c index r K))(ok:x.Ok)(hs:SF w D (xH k bx bm x dn rs) A [] (xW x) w):Calls Tryz.prog 217 #[.pointer (some ⟨bx,0,none⟩),.int .i64 c,.int .i64 index,.int .i64 r] w λ e w'=>∃q:Int×XS×List aP,e=.returned (.int .i64 q.1)/\Nx g x q.2.1 q.2.2 (K q.1) q.1/\SF w D (xH k bx bm q.2.1 dn rs) [] (aL q.2.2) (xW q.2.1) w':=by
 refine enter Tryz.func217 Tryz.ntmps217 rfl rfl (cD hs) ?_
 simp only[cA]
 refine Kc8 ?_;refine aD (cM (hs:=xH k bx bm x dn rs) (os:=xW x) (hc:=λ w hs=>cJ c _ hc go ok hs)) (λ x14 h14=>?_);refine pV ?_;refine aD (cF (hc:=λ w1 hw=>wg (v:=aB x.L c) (ok.nv c) index r (ok.sF hw hA c))) (λ x17 h17=>?_);refine Ny ?_;refine aJ (λ x9=>?_);refine Cr ?_;refine Kb7 ?_;refine aA ?_;refine aD (cM (hs:=xH k bx bm x dn rs) (os:=xW x) (A0:=[((nD (Rt (aB x.L c) index r) x17).brA,aH (mU (Rt (aB x.L c) index r))),((nD (Rt (aB x.L c) index r) x17).prA,cZ [])]) (hA:=Sw) (hc:=λ w hs=>hU hg (n:=nD (Rt (aB x.L c) index r) x17) (xs:=mU (Rt (aB x.L c) index r)) (ys:=[]) c _ (Ew _ _) (Et _ _) (di (ok.nv c) hr index).len (Nat.zero_le _) ((di (ok.nv c) hr index).nvB _) hc (by rw[<- aBn (ok.nv c)];exact h14.1) ok hs)) (λ x23 h23=>?_);refine J1 ?_
 refine aQ Tryz.results217 (λ w hw=>?_)
 exact⟨x23,rfl,h23,hw.aX (hF:=by exact aV.iM λ f hf=>List.mem_append_left _ hf)⟩
end
end

end Go.Proofs.YtbajmaoegmbfgaaGreat
