/- Executions of the reference: READ, DECIDE, HELP, GCAS, RDCSS. -/
import Derived.Test.YtadnboagdhcedaaGreatDoorGEx6

set_option linter.unusedSimpArgs false
set_option linter.unusedVariables false
namespace Go.Ct
section
theorem W0{n c:Nat}{a b d:Int}(h1:a<=n)(h2:b<=n)(h3:d<=n):nS n c {(({Nd.zero with kind:=8,bM:=a,exp:=b,new:=d}:Nd).c [] []) with main:=0,prev:=0,status:=0}:=⟨h1,h2,h3,(λ r hr=>nomatch hr),bH _,bH _,bH _,⟨0,rfl,by decide⟩,⟨0,rfl,by decide⟩⟩
end
end Go.Ct
namespace Go.Proofs.YtadnboagdhcedaaGreatDoor
section
open Go Go.RowKit Go.Ct
section
variable{k:Cl}{bx bm:Nat}{x:XS}{dn:Bool}{rs:Rs}{D:List Nat}{A:Fr}{w:World}{g:Gx}
theorem nF(hg:g.Ok)(t:dZ)(i:Int)(K:Int->Tr)(ht:t.root<=9223372036854775807)(hi:i<=x.L.length)(go:fD g x (lM t i K))(ok:x.Ok)(hs:SF w D (xH k bx bm x dn rs) A [] (xW x) w):Calls Tryz.prog 82 #[.pointer (some ⟨bx,0,none⟩),Kq t,.int .i64 i] w λ e w'=>∃q:Int×XS×List aL,e=.returned (.int .i64 q.1)/\Nx g x q.2.1 q.2.2 (K q.1) q.1/\SF w D (xH k bx bm q.2.1 dn rs) [] (aW q.2.2) (xW q.2.1) w':=by
 refine enter Tryz.func82 Tryz.ntmps82 rfl rfl (bX hs) ?_
 simp only[cO]
 simp only[Kq]
 refine J0 ?_;refine bQ (λ x4=>?_);refine gQ ?_;refine eG [(0,[]),(1,[]),(2,[]),(3,[]),(4,[]),(5,[]),(6,[1]),(7,[]),(8,[1]),(9,[]),(10,[])] ?_;refine Kb6 ?_;refine gP ?_;refine gP ?_;refine bC (i:=6) (hq:=(cM (hs:=xH k bx bm x dn rs) (os:=xW x) (hc:=λ w hs=>cD i _ hi go ok hs))) (h:=λ x13 h13=>?_);refine Cs ?_;refine bC (i:=8) (hq:=(cM (hs:=xH k bx bm x dn rs) (os:=xW x) (hc:=λ w hs=>oU hg (aA x.L i).nd.main _ (h13.2.i64 ok.lL ok.lc).2.2.2.1 h13.1 ok hs))) (h:=λ x15 h15=>?_);refine bC (i:=9) (hq:=(cM (hs:=xH k bx bm x15.2 dn rs) (os:=xW x15.2) (hc:=λ w hs=>Nk hg t i x15.1 _ ht (by have:=h15.len;omega) h15.bd h15.go h15.ok hs))) (h:=λ x16 h16=>?_);refine J7 ?_
 refine aQ Tryz.results82 (λ w hw=>?_)
 exact⟨x16,rfl,h15.trans h16,by rw[List.append_nil] at hw;exact hw.v1⟩
theorem Kv(hg:g.Ok)(t:dZ)(v:Int)(K:Tr)(ht:t.root<=9223372036854775807)(hv:v<=x.L.length)(go:fD g x (vK t v K))(ok:x.Ok)(hs:SF w D (xH k bx bm x dn rs) A [] (xW x) w):Calls Tryz.prog 112 #[.pointer (some ⟨bx,0,none⟩),Kq t,.int .i64 v] w λ e w'=>∃q:XS×List aL,e=.returned (.tuple #[])/\Nx g x q.1 q.2 K 0/\SF w D (xH k bx bm q.1 dn rs) [] (aW q.2) (xW q.1) w':=by
 refine enter Tryz.func112 Tryz.ntmps112 rfl rfl (bX hs) ?_
 simp only[cO]
 simp only[Kq]
 refine J0 ?_;refine bQ (λ x4=>?_);refine aI ?_;refine F4 ?_;refine aR ?_;refine eG [(0,[]),(1,[]),(2,[]),(3,[]),(7,[]),(8,[]),(4,[1]),(5,[]),(6,[]),(9,[]),(10,[]),(11,[])] ?_;refine Kb6 ?_;refine gP ?_;refine gP ?_;refine bC (i:=4) (hq:=(cM (hs:=xH k bx bm x dn rs) (os:=xW x) (hc:=λ w hs=>cD v _ hv go ok hs))) (h:=λ x11 h11=>?_);refine Cs ?_;refine bC (i:=6) (hq:=(cM (hs:=xH k bx bm x dn rs) (os:=xW x) (hc:=λ w hs=>nF hg t (aA x.L v).nd.bM _ ht h11.2.bM h11.1 ok hs))) (h:=λ x13 h13=>?_);refine bC (i:=9) (hq:=(cM (hs:=xH k bx bm x13.2.1 dn rs) (os:=xW x13.2.1) (hc:=λ w hs=>cD v _ (by have:=h13.len;omega) h13.go h13.ok hs))) (h:=λ x16 h16=>?_);refine Cs ?_;refine mZ ?_;refine dS ?_
 refine aZ (λ c18=>?_) (λ c18=>?_)
 ·have gx:fD g x13.2.1 (.node v λ n3=>.nV n3.status 0 1 λ _=>K):=h16.1.to (λ _=>by rw[show x13.1=(aA x13.2.1.L v).c.exp from c18];simp only[if_true])
  have h2e:(1:Int)<=x13.2.1.L.length:=by have:=h13.ok.two;omega
  refine dL ?_;refine J1 ?_;refine xJ ?_;refine oX ?_;refine aC (cM (hs:=xH k bx bm x13.2.1 dn rs) (os:=xW x13.2.1) (hc:=λ w hs=>cD v _ (by have:=h13.len;omega) gx h13.ok hs)) (λ x22 h22=>?_);refine cH ?_;refine aB ?_;(refine aT (by exact cM (hs:=xH k bx bm x13.2.1 dn rs) (os:=xW x13.2.1) (hc:=λ w hs=>uC hg (aA x13.2.1.L v).nd.status 0 1 _ (h22.2.i64 h13.ok.lL h13.ok.lc).2.2.2.2.2 h2e h22.1 h13.ok hs)) (λ x25=>?_);try (refine fB (λ h25=>?_)));refine aI ?_
  refine Cd Tryz.results112 (λ w hw=>?_)
  rw[List.append_nil] at hw
  exact⟨(x25.2,x13.2.2),rfl,(h13.trans h25).ext' h25.go (bH _),hw.v1⟩
 ·have gx:fD g x13.2.1 (.node v λ n3=>.nV n3.status 0 2 λ _=>K):=h16.1.to (λ _=>by simp only[if_neg (show ¬x13.1=(aA x13.2.1.L v).c.exp from c18)])
  have h2e:(2:Int)<=x13.2.1.L.length:=by have:=h13.ok.two;omega
  refine bA ?_;refine xJ ?_;refine oX ?_;refine aC (cM (hs:=xH k bx bm x13.2.1 dn rs) (os:=xW x13.2.1) (hc:=λ w hs=>cD v _ (by have:=h13.len;omega) gx h13.ok hs)) (λ x22 h22=>?_);refine cH ?_;refine aB ?_;(refine aT (by exact cM (hs:=xH k bx bm x13.2.1 dn rs) (os:=xW x13.2.1) (hc:=λ w hs=>uC hg (aA x13.2.1.L v).nd.status 0 2 _ (h22.2.i64 h13.ok.lL h13.ok.lc).2.2.2.2.2 h2e h22.1 h13.ok hs)) (λ x25=>?_);try (refine fB (λ h25=>?_)));refine aI ?_
  refine Cd Tryz.results112 (λ w hw=>?_)
  rw[List.append_nil] at hw
  exact⟨(x25.2,x13.2.2),rfl,(h13.trans h25).ext' h25.go (bH _),hw.v1⟩
theorem zX(hg:g.Ok)(t:dZ)(K:Int->Tr)(ht:t.root<=9223372036854775807)(go:fD g x (rY t K))(ok:x.Ok)(hs:SF w D (xH k bx bm x dn rs) A [] (xW x) w):Calls Tryz.prog 84 #[.pointer (some ⟨bx,0,none⟩),Kq t] w λ e w'=>∃q:Int×XS×List aL,e=.returned (.int .i64 q.1)/\Nx g x q.2.1 q.2.2 (K q.1) q.1/\SF w D (xH k bx bm q.2.1 dn rs) [] (aW q.2.2) (xW q.2.1) w':=by
 refine enter Tryz.func84 Tryz.ntmps84 rfl rfl (bX hs) ?_
 simp only[cO]
 simp only[Kq]
 refine J0 ?_;refine bQ (λ x3=>?_);refine Ka4 ?_;refine J3 ?_;refine aC (cM (hs:=xH k bx bm x dn rs) (os:=xW x) (hc:=λ w hs=>oU hg t.root _ ht go ok hs)) (λ x11 h11=>?_);refine gQ ?_;refine mV ?_;refine aB ?_
 (refine eF 16 (λ g16=>?_) (λ g16=>?_)<;>refine Ka0 ?_)
 all_goals (refine Ka0 ?_;(first|refine aH ?_|(refine aF ?_;refine aC (cM (hs:=xH k bx bm x11.2 dn rs) (os:=xW x11.2) (hc:=λ w hs=>cD x11.1 _ h11.bd h11.go h11.ok hs)) (λ x19 h19=>?_)));refine vu ?_;refine aI ?_)
 all_goals
 refine aZ (λ c22=>?_) (λ c22=>?_)
 ·all_goals (refine Ka5 ?_)
  all_goals
   refine aQ Tryz.results84 (λ w hw=>?_)
   exact⟨(x11.1,x11.2,[]),rfl,h11.cC (by first|exact h11.go.bS (by assumption)|exact h19.1.to (λ _=>if_pos (by assumption))) h11.bd,hw.aS (hF:=by exact aV.nil)⟩
 ·try exact nv c22
  all_goals
   have g1:=h19.1.to (λ _=>if_neg c22)
   have hb1:=h19.2.i64 h11.ok.lL h11.ok.lc
  all_goals (refine zS ?_;refine aB ?_;refine aC (cM (hs:=xH k bx bm x11.2 dn rs) (os:=xW x11.2) (hc:=λ w hs=>cD x11.1 _ h11.bd g1 h11.ok hs)) (λ x27 h27=>?_);refine cH ?_;refine aC (cM (hs:=xH k bx bm x11.2 dn rs) (os:=xW x11.2) (hc:=λ w hs=>oU hg (aA x11.2.L x11.1).nd.status _ hb1.2.2.2.2.2 h27.1 h11.ok hs)) (λ x29 h29=>?_);refine gQ ?_)
  all_goals
   refine dW [6,30,31,32,33,34,35,36,37,38,39,40,41] (λ q:Int×XS×List aL=>[(6,.int .i64 q.1)]) (λ q=>Nx g x q.2.1 q.2.2 (Ga t x11.1 q.1 K) 0/\x11.1<=q.2.1.L.length) (λ q=>[(x3,.cells ⟨[.int .i64 t.root,.bool t.ro]⟩ 29 (0,0)),(bx,xO k bm q.2.1 dn rs),(bm,xM q.2.1)]) (λ q=>aW q.2.2) (λ q=>xW q.2.1) (by decide) (λ _=>by exact rfl) ?_ (λ q f hx=>?_)
   ·refine aR ?_
    refine xJ ?_;refine sX ?_
    refine aZ (λ c31=>?_) (λ c31=>?_)
    ·have g2:=h29.go.to (λ _=>if_pos c31)
     have hv2:x11.1<=x29.2.L.length:=by have:=h29.len;have:=h11.bd;omega
     refine Kb4 ?_;refine aB ?_;refine aC (cM (hs:=xH k bx bm x29.2 dn rs) (os:=xW x29.2) (hc:=λ w hs=>Kv hg t x11.1 _ ht hv2 g2 h29.ok hs)) (λ x35 h35=>?_);refine aI ?_;refine xJ ?_;refine oX ?_;refine aC (cM (hs:=xH k bx bm x35.1 dn rs) (os:=xW x35.1) (hc:=λ w hs=>cD x11.1 _ (by have:=h35.len;omega) h35.go h35.ok hs)) (λ x39 h39=>?_);refine cH ?_;refine aC (cM (hs:=xH k bx bm x35.1 dn rs) (os:=xW x35.1) (hc:=λ w hs=>oU hg (aA x35.1.L x11.1).nd.status _ (h39.2.i64 h35.ok.lL h35.ok.lc).2.2.2.2.2 h39.1 h35.ok hs)) (λ x41 h41=>?_);refine J1 ?_
     refine eN ((x41.1,x41.2,x35.2)) ?_ (hw1:=λ w hw=>by rw[List.append_nil] at hw;exact hw.v4)
     ·exact⟨((h11.trans h29).trans (h35.trans h41)).ext' h41.go (bH _),(show x11.1<=(x41.2.L.length:Int) by have:=h35.len;have:=h41.len;omega)⟩
    ·have g2:=h29.go.to (λ _=>if_neg c31)
     have hv2:x11.1<=x29.2.L.length:=by have:=h29.len;have:=h11.bd;omega
     refine bA ?_
     refine eN ((x29.1,x29.2,[])) ?_ (hw1:=λ w hw=>hw.back (hF:=by exact aV.nil))
     ·exact⟨(h11.trans h29).cC g2 (bH _),hv2⟩
   dsimp only[fY,List.map,List.cons_append,List.nil_append]
  all_goals (refine Kd1 ?_;refine aC (cM (hs:=xH k bx bm q.2.1 dn rs) (os:=xW q.2.1) (hc:=λ w hs=>Dz x11.1 q.1 _ hx.2 hx.1.go hx.1.ok hs)) (λ x45 h45=>?_);refine Ka4 ?_;refine J3 ?_;refine oX ?_;refine aC (cM (hs:=xH k bx bm q.2.1 dn rs) (os:=xW q.2.1) (hc:=λ w hs=>uC hg t.root x11.1 x45 _ ht h45.2 h45.1 hx.1.ok hs)) (λ x51 h51=>?_);refine aI ?_;refine Ka5 ?_)
  all_goals
   refine aQ Tryz.results84 (λ w hw=>?_)
   exact⟨(x45,x51.2,q.2.2),rfl,(hx.1.trans h51).ext' h51.go (by have:=h51.len;have:=h45.2;omega),hw.v1⟩
theorem rN(hg:g.Ok)(t:dZ)(i bM n:Int)(K:Bool->Tr)(ht:t.root<=9223372036854775807)(hi:i<=x.L.length)(hn:n<=x.L.length)(go:fD g x (mP t i bM n K))(ok:x.Ok)(hs:SF w D (xH k bx bm x dn rs) A [] (xW x) w):Calls Tryz.prog 83 #[.pointer (some ⟨bx,0,none⟩),Kq t,.int .i64 i,.int .i64 bM,.int .i64 n] w λ e w'=>∃q:Bool×XS×List aL,e=.returned (.bool q.1)/\Nx g x q.2.1 q.2.2 (K q.1) 0/\SF w D (xH k bx bm q.2.1 dn rs) [] (aW q.2.2) (xW q.2.1) w':=by
 refine enter Tryz.func83 Tryz.ntmps83 rfl rfl (bX hs) ?_
 simp only[cO]
 simp only[Kq]
 refine J0 ?_;refine bQ (λ x6=>?_);refine gQ ?_;refine Kd1 ?_;refine aC (cM (hs:=xH k bx bm x dn rs) (os:=xW x) (hc:=λ w hs=>cD i _ hi go ok hs)) (λ x15 h15=>?_);refine cH ?_;refine oX ?_;refine aC (cM (hs:=xH k bx bm x dn rs) (os:=xW x) (hc:=λ w hs=>uC hg (aA x.L i).nd.main bM n _ (h15.2.i64 ok.lL ok.lc).2.2.2.1 hn h15.1 ok hs)) (λ x19 h19=>?_);refine mJ ?_
 refine aZ (λ c20=>?_) (λ c20=>?_)
 ·refine cQ ?_
  refine aQ Tryz.results83 (λ w hw=>?_)
  exact⟨(false,x19.2,[]),rfl,h19.cC (h19.go.to (λ _=>if_neg (by simpa using c20))) (bH _),hw.aS (hF:=by exact aV.nil)⟩
 ·have g1:=h19.go.to (λ _=>if_pos (by simpa using c20))
  have hl19:=h19.len
  refine bA ?_;refine Kb4 ?_;refine oX ?_;refine aC (cM (hs:=xH k bx bm x19.2 dn rs) (os:=xW x19.2) (hc:=λ w hs=>Nk hg t i n _ ht (by omega) (by omega) g1 h19.ok hs)) (λ x25 h25=>?_);refine J1 ?_;refine mV ?_;refine E8 ?_
  (refine eF 31 (λ g31=>?_) (λ g31=>?_)<;>refine Ka0 ?_)
  all_goals (refine Ka0 ?_;refine zN ?_;refine J1 ?_)
  all_goals
  refine aQ Tryz.results83 (λ w hw=>?_)
  rw[List.append_nil] at hw
  first
   | exact⟨(x25.1==n,x25.2.1,x25.2.2),rfl,(h19.trans h25).cC h25.go (bH _),hw.v1⟩
   | exact⟨(false,x25.2.1,x25.2.2),rfl,(h19.trans h25).cC (h25.go.bS (by assumption)) (bH _),hw.v1⟩
end
end

/- Executions of the reference: RDCSS, RENEW; functions that read lists of nodes. -/
end Go.Proofs.YtadnboagdhcedaaGreatDoor
namespace Go.Ct
section
open Go Go.RowKit
theorem Ch.to{g:Gx}{x0 x X:XS}{F:Fr}{N:List aL}{t t':Tr}{b b':Int}(h:Ch x0 X F)(h2:Nx g x X N t b)(go:fD g X t')(hc:x0.cs.length<=X.cs.length)(hb:b'<=X.L.length):∃N,Nx g x0 X N t' b'/\∀f∈aW N,f.2=[]∨f∈F:=by
 obtain⟨N,h3,h4⟩:=h
 exact⟨N,⟨go,h2.ok,h3,hc,hb⟩,h4⟩
theorem XS.Ok.qR{w0 w:World}{M:List Nat}{H:List (Nat×Obj)}{A F:Fr}{O:List Ow}{x:XS}(ok:x.Ok)(h:SF w0 M H A F O w)(hA:∀f∈aW x.L,f∈A)(r:Int):qQ w (aA x.L r).nd (aA x.L r).xs (aA x.L r).ys:=h.ax (Ch.base (F:=F)) hA ok r
end
end Go.Ct
namespace Go.Proofs.YtadnboagdhcedaaGreatDoor
section
open Go Go.RowKit Go.Ct
structure tD(n:Nat)(o:Option (Nat×List Int)):Prop where
 out:∀q,o=some q->q.1<18446744073709551616/\q.2.length<=64/\∀r∈q.2,r<=n
theorem Zj{b:Nat}{xs:List Int}(h:BV b xs):xs.length<=64:=by rw[h.len];exact tF b 64
theorem gj{xs:List Int}{p:Nat}{r v:Int}(h:v∈oZ xs p r):v∈xs∨v=r:=by
 unfold oZ at h
 rcases List.mem_append.1 h with h|h
 ·exact .inl (List.mem_of_mem_take h)
 ·rcases List.mem_cons.1 h with h|h
  ·exact .inr h
  ·exact .inl (List.mem_of_mem_drop h)
theorem fk{xs:List Int}{p:Nat}{r v:Int}(h:v∈uL xs p r):v∈xs∨v=r:=by
 unfold uL at h
 rcases List.mem_append.1 h with h|h
 ·exact .inl (List.mem_of_mem_take h)
 ·rcases List.mem_cons.1 h with h|h
  ·exact .inr h
  ·exact .inl (List.mem_of_mem_drop h)
theorem jc{xs:List Int}{p:Nat}{v:Int}(h:v∈qN xs p):v∈xs:=by
 unfold qN at h
 rcases List.mem_append.1 h with h|h
 ·exact List.mem_of_mem_take h
 ·exact List.mem_of_mem_drop h
section
variable{n:Nd}{xs:List Int}{ys:List Pr}{b m:Nat}
theorem fh(hb:n.bm=(b:Int))(hb2:b<18446744073709551616)(hx:∀r∈xs,r<=m){r:Int}(hr:r<=m)(i:Int):tD m (cy n xs ys b i r):=⟨λ q hq=>by
 unfold cy at hq
 split at hq
 ·rename_i h
  cases hq
  obtain⟨h1,h2,h3⟩:=h
  have hv:=h1.bv hb hb2
  obtain⟨e1,e2,e3,e4⟩:=qB h3
  have:=(Oh hv (i:=i.toNat) (by omega) e3 h2).1
  rw[<- e4] at this
  exact⟨this.lt,Zj this,λ v hv=>(gj hv).elim (hx v) (λ e=>e▸hr)⟩
 ·cases hq⟩
theorem gh(hb:n.bm=(b:Int))(hb2:b<18446744073709551616)(hx:∀r∈xs,r<=m){r:Int}(hr:r<=m)(i:Int):tD m (de n xs ys b i r):=⟨λ q hq=>by
 unfold de at hq
 split at hq
 ·rename_i h
  cases hq
  obtain⟨h1,h0,h2,h3⟩:=h
  have hv:=h1.bv hb hb2
  have e:i=((i.toNat:Nat):Int):=by omega
  have hk:i.toNat<64:=by omega
  rw[e] at h3 ⊢
  rw[oT b hk] at h3
  have:=(Dn hv (i:=i.toNat) hk h3 h2).1
  rw[oB b hk,mT b hk]
  exact⟨this.lt,Zj this,λ v hv=>(fk hv).elim (hx v) (λ e=>e▸hr)⟩
 ·cases hq⟩
theorem l7(hb:n.bm=(b:Int))(hb2:b<18446744073709551616)(hx:∀r∈xs,r<=m)(i:Int):tD m (cx n xs ys b i):=⟨λ q hq=>by
 unfold cx at hq
 split at hq
 ·rename_i h
  cases hq
  obtain⟨h1,h3⟩:=h
  have hv:=h1.bv hb hb2
  obtain⟨e1,e2,e3,e4⟩:=qB h3
  have hk:i.toNat<64:=by omega
  have:=(Of hv (i:=i.toNat) hk e3).1
  have e:i=((i.toNat:Nat):Int):=by omega
  rw[e,qZ b hk,mT b hk]
  exact⟨this.lt,Zj this,λ v hv=>hx v (jc hv)⟩
 ·cases hq⟩
end
theorem tD.nvB{m c:Nat}{o:Option (Nat×List Int)}(h:tD m o)(x:Option Addr×Nat):nS m c {(lI o x).c (lD o) [] with main:=0,prev:=0,status:=0}:=by
 rw[Es]
 cases o with
 | none=>exact⟨bH _,bH _,bH _,(λ r hr=>nomatch hr),bH _,bH _,bH _,⟨0,rfl,by decide⟩,⟨0,rfl,by decide⟩⟩
 | some q =>
  have h1:=h.out q rfl
  exact⟨bH _,bH _,bH _,h1.2.2,bH _,bH _,bH _,⟨q.1,rfl,h1.1⟩,⟨0,rfl,by decide⟩⟩
theorem tD.len{m:Nat}{o:Option (Nat×List Int)}(h:tD m o):(lD o).length<=274877906944:=by
 cases o with
 | none=>exact Nat.zero_le _
 | some q=>exact Nat.le_trans (h.out q rfl).2.1 (by decide)
theorem Cr(o:Option (Nat×List Int))(x:Option Addr×Nat):(lI o x).brN=(lD o).length:=by cases o<;>rfl
theorem Ck(o:Option (Nat×List Int))(x:Option Addr×Nat):(lI o x).prN=([]:List Pr).length:=by cases o<;>rfl
theorem On{A F:Fr}{O:List Ow}{o:Option (Nat×List Int)}{x:Option Addr×Nat}:bP A ((x.1,aG (lD o))::F) O [((lI o x).brA,aG (lD o)),((lI o x).prA,dG [])]:=by
 cases o with
 | none=>exact .cons (.inl rfl) (.cons (.inl rfl) .nil)
 | some q=>exact .cons (.inr (.inr (.inl (.head _)))) (.cons (.inl rfl) .nil)
section
variable{v:aL}{n c:Nat}{w:World}
theorem eE(h:nS n c v.c):v.nd.bm=((v.c.bm.toNat:Nat):Int)/\v.c.bm.toNat<18446744073709551616:=by
 obtain⟨b,h1,h2⟩:=h.bm
 have h3:v.nd.bm=(b:Int):=h1
 have h4:v.c.bm=(b:Int):=h1
 rw[h3,h4]
 exact⟨by simp,by simpa using h2⟩
theorem Ha(h:nS n c v.c)(i:Int)(hr:qQ w v.nd v.xs v.ys):Calls Tryz.prog 115 #[v.nd.v,.int .i64 i] w λ e w'=>e=.returned (.tuple #[.int .i64 ((jN v.c i).getD 0),.bool (jN v.c i).isSome])/\St w [] [] w':=by
 have h1:=eE h
 have:=mL (n:=v.nd) i h1.1 h1.2 hr
 rw[wz h1.1 i] at this
 exact this
theorem oW(h:nS n c v.c)(i:Int):(jN v.c i).getD 0<=n:=by
 have h1:=eE h
 have e:=wz (xs:=v.xs) (ys:=v.ys) h1.1 i
 rw[show jN v.c i=jN (v.nd.c v.xs v.ys) i from rfl,<- e]
 unfold Jk
 split
 ·exact mI h.br _
 ·exact bH _
abbrev Nr(v:aL)(i r:Int):Option (Nat×List Int):=cy v.nd v.xs v.ys v.c.bm.toNat i r
abbrev Vq(v:aL)(i r:Int):Option (Nat×List Int):=de v.nd v.xs v.ys v.c.bm.toNat i r
abbrev Yg(v:aL)(i:Int):Option (Nat×List Int):=cx v.nd v.xs v.ys v.c.bm.toNat i
theorem xy(h:nS n c v.c)(i r:Int)(x:Option Addr×Nat):N9 v.c i r=(lI (Nr v i r) x).c (lD (Nr v i r)) []:=by
 rw[Es]
 exact(yu (eE h).1 i r).symm
theorem zk(h:nS n c v.c)(i r:Int)(x:Option Addr×Nat):ql v.c i r=(lI (Vq v i r) x).c (lD (Vq v i r)) []:=by
 rw[Es]
 exact(aAn (eE h).1 i r).symm
theorem pf(h:nS n c v.c)(i:Int)(x:Option Addr×Nat):Kn v.c i=(lI (Yg v i) x).c (lD (Yg v i)) []:=by
 rw[Es]
 exact(xg (eE h).1 i).symm
theorem pq(h:nS n c v.c)(i r:Int)(hr:qQ w v.nd v.xs v.ys):Calls Tryz.prog 118 #[v.nd.v,.int .i64 i,.int .i64 r] w (Tg w (Nr v i r)):=Jj (n:=v.nd) i r (eE h).1 (eE h).2 hr
theorem Zd(h:nS n c v.c)(i r:Int)(hr:qQ w v.nd v.xs v.ys):Calls Tryz.prog 153 #[v.nd.v,.int .i64 i,.int .i64 r] w (Tg w (Vq v i r)):=Fy (n:=v.nd) i r (eE h).1 (eE h).2 hr
theorem vx(h:nS n c v.c)(i:Int)(hr:qQ w v.nd v.xs v.ys):Calls Tryz.prog 156 #[v.nd.v,.int .i64 i] w (Tg w (Yg v i)):=Ig (n:=v.nd) i (eE h).1 (eE h).2 hr
theorem Xr(h:nS n c v.c){r:Int}(hr:r<=n)(i:Int):tD n (Nr v i r):=fh (eE h).1 (eE h).2 h.br hr i
theorem wu(h:nS n c v.c){r:Int}(hr:r<=n)(i:Int):tD n (Vq v i r):=gh (eE h).1 (eE h).2 h.br hr i
theorem ze(h:nS n c v.c)(i:Int):tD n (Yg v i):=l7 (eE h).1 (eE h).2 h.br i
end
theorem qK{n c:Nat}{g:Int}:nS n c {(({Nd.zero with kind:=2,gen:=g}:Nd).c [] []) with main:=0,prev:=0,status:=0}:=⟨bH _,bH _,bH _,(λ r hr=>nomatch hr),bH _,bH _,bH _,⟨0,rfl,by decide⟩,⟨0,rfl,by decide⟩⟩
section
variable{k:Cl}{bx bm:Nat}{x:XS}{dn:Bool}{rs:Rs}{D:List Nat}{A:Fr}{w:World}{g:Gx}
theorem Ke(hg:g.Ok)(t:dZ)(o ex n:Int)(K:Bool->Tr)(ht:t.root<=9223372036854775807)(ho:o<=x.L.length)(he:ex<=x.L.length)(hn:n<=x.L.length)(go:fD g x (tR t o ex n K))(ok:x.Ok)(hs:SF w D (xH k bx bm x dn rs) A [] (xW x) w):Calls Tryz.prog 85 #[.pointer (some ⟨bx,0,none⟩),Kq t,.int .i64 o,.int .i64 ex,.int .i64 n] w λ e w'=>∃q:Bool×XS×List aL,e=.returned (.bool q.1)/\Nx g x q.2.1 q.2.2 (K q.1) 0/\SF w D (xH k bx bm q.2.1 dn rs) [] (aW q.2.2) (xW q.2.1) w':=by
 refine enter Tryz.func85 Tryz.ntmps85 rfl rfl (bX hs) ?_
 simp only[cO]
 simp only[Kq]
 refine J0 ?_;refine bQ (λ x6=>?_);refine sZ ?_;refine oX ?_;refine bG ?_;refine aC (cM (hs:=xH k bx bm x dn rs) (os:=xW x) (A0:=[(none,aG []),(none,dG [])]) (hc:=λ w hs=>fR hg (n:={Nd.zero with kind:=8,bM:=o,exp:=ex,new:=n}) (xs:=[]) (ys:=[]) 0 _ rfl rfl (by decide) (Nat.zero_le _) (W0 ho he hn) (bH _) go ok hs)) (λ x18 h18=>?_);refine gQ ?_;refine J2 ?_;refine J3 ?_;refine oX ?_;refine aC (cM (hs:=xH k bx bm x18.2.1 dn rs) (os:=xW x18.2.1) (hc:=λ w hs=>uC hg t.root o x18.1 _ ht h18.bd h18.go h18.ok hs)) (λ x24 h24=>?_);refine mJ ?_
 refine aZ (λ c25=>?_) (λ c25=>?_)
 ·refine cQ ?_
  refine aQ Tryz.results85 (λ w hw=>?_)
  obtain⟨N,hN,hf⟩:=(Ch.base (F:=[])).nx h18 |>.uw h24 |>.to h24 (h24.go.to (λ _=>if_neg (by simpa using c25))) (by have:=h18.lc;have:=h24.lc;omega) (bH _)
  exact⟨(false,x24.2,N),rfl,hN,(hw.eP hf).v1⟩
 ·have g1:=h24.go.to (λ _=>if_pos (by simpa using c25))
  have hl24:=h24.len
  have hb18:=h18.bd
  refine bA ?_;refine Kb4 ?_;refine aB ?_;refine aC (cM (hs:=xH k bx bm x24.2 dn rs) (os:=xW x24.2) (hc:=λ w hs=>Kv hg t x18.1 _ ht (by omega) g1 h24.ok hs)) (λ x29 h29=>?_);refine aI ?_;refine Kd1 ?_;refine aC (cM (hs:=xH k bx bm x29.1 dn rs) (os:=xW x29.1) (hc:=λ w hs=>cD x18.1 _ (by have:=h29.len;omega) h29.go h29.ok hs)) (λ x33 h33=>?_);refine cH ?_;refine aC (cM (hs:=xH k bx bm x29.1 dn rs) (os:=xW x29.1) (hc:=λ w hs=>oU hg (aA x29.1.L x18.1).nd.status _ (h33.2.i64 h29.ok.lL h29.ok.lc).2.2.2.2.2 h33.1 h29.ok hs)) (λ x35 h35=>?_);refine gQ ?_;refine eG [(0,[]),(1,[]),(2,[]),(3,[]),(4,[]),(5,[]),(6,[]),(7,[2]),(8,[])] ?_;refine aU ?_;refine mF ?_;refine gP ?_;refine gP ?_;refine bC (i:=7) (hq:=(cM (hs:=xH k bx bm x35.2 dn rs) (os:=xW x35.2) (hc:=λ w hs=>Dz x18.1 x35.1 _ (by have:=h29.len;have:=h35.len;omega) h35.go h35.ok hs))) (h:=λ x43 h43=>?_);refine bC (i:=8) (hq:=(cM (hs:=xH k bx bm x35.2 dn rs) (os:=xW x35.2) (hc:=λ w hs=>uC hg t.root x18.1 x43 _ ht h43.2 h43.1 h35.ok hs))) (h:=λ x44 h44=>?_);refine dS ?_;refine mV ?_;refine E8 ?_
  (refine eF 50 (λ g50=>?_) (λ g50=>?_)<;>refine Ka0 ?_)
  all_goals (refine zN ?_;refine J1 ?_)
  all_goals
  refine aQ Tryz.results85 (λ w hw=>?_)
  first
   | (obtain⟨N,hN,hf⟩:=(Ch.nx h29 ((Ch.base (F:=[])).nx h18 |>.uw h24)) |>.uw h35 |>.uw h44 |>.to h44 h44.go (by have:=h18.lc;have:=h24.lc;have:=h29.lc;have:=h35.lc;have:=h44.lc;omega) (bH _);exact⟨(x35.1==1,x44.2,N),rfl,hN,(hw.eP hf).v1⟩)
   | (obtain⟨N,hN,hf⟩:=(Ch.nx h29 ((Ch.base (F:=[])).nx h18 |>.uw h24)) |>.uw h35 |>.uw h44 |>.to (t':=K false) h44 (h44.go.bS (by assumption)) (by have:=h18.lc;have:=h24.lc;have:=h29.lc;have:=h35.lc;have:=h44.lc;omega) (bH _);exact⟨(false,x44.2,N),rfl,hN,(hw.eP hf).v1⟩)
theorem Av(hg:g.Ok)(c index r:Int)(K:Int->Tr)(hc:c<=x.L.length)(hr:r<=x.L.length)(hA:∀f∈aW x.L,f∈A)(go:fD g x (C9 c index r K))(ok:x.Ok)(hs:SF w D (xH k bx bm x dn rs) A [] (xW x) w):Calls Tryz.prog 116 #[.pointer (some ⟨bx,0,none⟩),.int .i64 c,.int .i64 index,.int .i64 r] w λ e w'=>∃q:Int×XS×List aL,e=.returned (.int .i64 q.1)/\Nx g x q.2.1 q.2.2 (K q.1) q.1/\SF w D (xH k bx bm q.2.1 dn rs) [] (aW q.2.2) (xW q.2.1) w':=by
 refine enter Tryz.func116 Tryz.ntmps116 rfl rfl (bX hs) ?_
 simp only[cO]
 refine cQ ?_;refine iR ?_;refine aC (cM (hs:=xH k bx bm x dn rs) (os:=xW x) (hc:=λ w hs=>cD c _ hc go ok hs)) (λ x14 h14=>?_);refine oX ?_;refine aC (cF (hc:=λ w1 hw=>pq (v:=aA x.L c) (ok.nv c) index r (ok.qR hw hA c))) (λ x17 h17=>?_);refine Fq ?_;refine aN (λ x9=>?_);refine B5 ?_;refine Kb4 ?_;refine aB ?_;refine aC (cM (hs:=xH k bx bm x dn rs) (os:=xW x) (A0:=[((lI (Nr (aA x.L c) index r) x17).brA,aG (lD (Nr (aA x.L c) index r))),((lI (Nr (aA x.L c) index r) x17).prA,dG [])]) (hA:=On) (hc:=λ w hs=>fR hg (n:=lI (Nr (aA x.L c) index r) x17) (xs:=lD (Nr (aA x.L c) index r)) (ys:=[]) c _ (Cr _ _) (Ck _ _) (Xr (ok.nv c) hr index).len (Nat.zero_le _) ((Xr (ok.nv c) hr index).nvB _) hc (by rw[<- xy (ok.nv c)];exact h14.1) ok hs)) (λ x23 h23=>?_);refine J1 ?_
 refine aQ Tryz.results116 (λ w hw=>?_)
 exact⟨x23,rfl,h23,hw.aS (hF:=by exact aV.qL λ f hf=>List.mem_append_left _ hf)⟩
end
end

end Go.Proofs.YtadnboagdhcedaaGreatDoor
