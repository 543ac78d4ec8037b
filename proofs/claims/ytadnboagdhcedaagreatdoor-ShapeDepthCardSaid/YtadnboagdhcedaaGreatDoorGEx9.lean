/- Executions of the reference: READ, DECIDE, HELP, GCAS, RDCSS. -/
import Derived.Test.YtadnboagdhcedaaGreatDoorGEx6

set_option linter.unusedSimpArgs false
set_option linter.unusedVariables false
namespace Go.Ct
section
theorem Yb{n c:Nat}{a b d:Int}(h1:a<=n)(h2:b<=n)(h3:d<=n):nU n c {(({Nd.zero with kind:=8,bM:=a,exp:=b,new:=d}:Nd).c [] []) with main:=0,prev:=0,status:=0}:=⟨h1,h2,h3,(λ r hr=>nomatch hr),bF _,bF _,bF _,⟨0,rfl,by decide⟩,⟨0,rfl,by decide⟩⟩
end
end Go.Ct
namespace Go.Proofs.YtadnboagdhcedaaGreatDoor
section
open Go Go.RowKit Go.Ct
section
variable{k:Cl}{bx bm:Nat}{x:XS}{dn:Bool}{rs:Rs}{D:List Nat}{A:Fr}{w:World}{g:Gx}
theorem nE(hg:g.Ok)(t:eA)(i:Int)(K:Int->Tr)(ht:t.root<=9223372036854775807)(hi:i<=x.L.length)(go:fD g x (lI t i K))(ok:x.Ok)(hs:SF w D (xH k bx bm x dn rs) A [] (xW x) w):Calls Tryz.prog 82 #[.pointer (some ⟨bx,0,none⟩),Ko t,.int .i64 i] w λ e w'=>∃q:Int×XS×List aL,e=.returned (.int .i64 q.1)/\Nx g x q.2.1 q.2.2 (K q.1) q.1/\SF w D (xH k bx bm q.2.1 dn rs) [] (aV q.2.2) (xW q.2.1) w':=by
 refine enter Tryz.func82 Tryz.ntmps82 rfl rfl (bX hs) ?_
 simp only[cP]
 simp only[Ko]
 refine J0 ?_;refine bP (λ x4=>?_);refine gP ?_;refine eG [(0,[]),(1,[]),(2,[]),(3,[]),(4,[]),(5,[]),(6,[1]),(7,[]),(8,[1]),(9,[]),(10,[])] ?_;refine Kb6 ?_;refine gN ?_;refine gN ?_;refine bC (i:=6) (hq:=(cM (hs:=xH k bx bm x dn rs) (os:=xW x) (hc:=λ w hs=>cE i _ hi go ok hs))) (h:=λ x13 h13=>?_);refine Ca ?_;refine bC (i:=8) (hq:=(cM (hs:=xH k bx bm x dn rs) (os:=xW x) (hc:=λ w hs=>oU hg (aA x.L i).nd.main _ (h13.2.i64 ok.lL ok.lc).2.2.2.1 h13.1 ok hs))) (h:=λ x15 h15=>?_);refine bC (i:=9) (hq:=(cM (hs:=xH k bx bm x15.2 dn rs) (os:=xW x15.2) (hc:=λ w hs=>M7 hg t i x15.1 _ ht (by have:=h15.len;omega) h15.bd h15.go h15.ok hs))) (h:=λ x16 h16=>?_);refine J7 ?_
 refine aQ Tryz.results82 (λ w hw=>?_)
 exact⟨x16,rfl,h15.trans h16,by rw[List.append_nil] at hw;exact hw.v4⟩
theorem L9(hg:g.Ok)(t:eA)(v:Int)(K:Tr)(ht:t.root<=9223372036854775807)(hv:v<=x.L.length)(go:fD g x (vK t v K))(ok:x.Ok)(hs:SF w D (xH k bx bm x dn rs) A [] (xW x) w):Calls Tryz.prog 112 #[.pointer (some ⟨bx,0,none⟩),Ko t,.int .i64 v] w λ e w'=>∃q:XS×List aL,e=.returned (.tuple #[])/\Nx g x q.1 q.2 K 0/\SF w D (xH k bx bm q.1 dn rs) [] (aV q.2) (xW q.1) w':=by
 refine enter Tryz.func112 Tryz.ntmps112 rfl rfl (bX hs) ?_
 simp only[cP]
 simp only[Ko]
 refine J0 ?_;refine bP (λ x4=>?_);refine aI ?_;refine F2 ?_;refine aR ?_;refine eG [(0,[]),(1,[]),(2,[]),(3,[]),(7,[]),(8,[]),(4,[1]),(5,[]),(6,[]),(9,[]),(10,[]),(11,[])] ?_;refine Kb6 ?_;refine gN ?_;refine gN ?_;refine bC (i:=4) (hq:=(cM (hs:=xH k bx bm x dn rs) (os:=xW x) (hc:=λ w hs=>cE v _ hv go ok hs))) (h:=λ x11 h11=>?_);refine Ca ?_;refine bC (i:=6) (hq:=(cM (hs:=xH k bx bm x dn rs) (os:=xW x) (hc:=λ w hs=>nE hg t (aA x.L v).nd.bM _ ht h11.2.bM h11.1 ok hs))) (h:=λ x13 h13=>?_);refine bC (i:=9) (hq:=(cM (hs:=xH k bx bm x13.2.1 dn rs) (os:=xW x13.2.1) (hc:=λ w hs=>cE v _ (by have:=h13.len;omega) h13.go h13.ok hs))) (h:=λ x16 h16=>?_);refine Ca ?_;refine mK ?_;refine dW ?_
 refine aZ (λ c18=>?_) (λ c18=>?_)
 ·have gx:fD g x13.2.1 (.node v λ n3=>.oG n3.status 0 1 λ _=>K):=h16.1.to (λ _=>by rw[show x13.1=(aA x13.2.1.L v).c.exp from c18];simp only[if_true])
  have h2e:(1:Int)<=x13.2.1.L.length:=by have:=h13.ok.two;omega
  refine dJ ?_;refine J1 ?_;refine wS ?_;refine nX ?_;refine aC (cM (hs:=xH k bx bm x13.2.1 dn rs) (os:=xW x13.2.1) (hc:=λ w hs=>cE v _ (by have:=h13.len;omega) gx h13.ok hs)) (λ x22 h22=>?_);refine cG ?_;refine aB ?_;(refine aU (by exact cM (hs:=xH k bx bm x13.2.1 dn rs) (os:=xW x13.2.1) (hc:=λ w hs=>tS hg (aA x13.2.1.L v).nd.status 0 1 _ (h22.2.i64 h13.ok.lL h13.ok.lc).2.2.2.2.2 h2e h22.1 h13.ok hs)) (λ x25=>?_);try (refine eZ (λ h25=>?_)));refine aI ?_
  refine By Tryz.results112 (λ w hw=>?_)
  rw[List.append_nil] at hw
  exact⟨(x25.2,x13.2.2),rfl,(h13.trans h25).ext' h25.go (bF _),hw.v4⟩
 ·have gx:fD g x13.2.1 (.node v λ n3=>.oG n3.status 0 2 λ _=>K):=h16.1.to (λ _=>by simp only[if_neg (show ¬x13.1=(aA x13.2.1.L v).c.exp from c18)])
  have h2e:(2:Int)<=x13.2.1.L.length:=by have:=h13.ok.two;omega
  refine bA ?_;refine wS ?_;refine nX ?_;refine aC (cM (hs:=xH k bx bm x13.2.1 dn rs) (os:=xW x13.2.1) (hc:=λ w hs=>cE v _ (by have:=h13.len;omega) gx h13.ok hs)) (λ x22 h22=>?_);refine cG ?_;refine aB ?_;(refine aU (by exact cM (hs:=xH k bx bm x13.2.1 dn rs) (os:=xW x13.2.1) (hc:=λ w hs=>tS hg (aA x13.2.1.L v).nd.status 0 2 _ (h22.2.i64 h13.ok.lL h13.ok.lc).2.2.2.2.2 h2e h22.1 h13.ok hs)) (λ x25=>?_);try (refine eZ (λ h25=>?_)));refine aI ?_
  refine By Tryz.results112 (λ w hw=>?_)
  rw[List.append_nil] at hw
  exact⟨(x25.2,x13.2.2),rfl,(h13.trans h25).ext' h25.go (bF _),hw.v4⟩
theorem Aj(hg:g.Ok)(t:eA)(K:Int->Tr)(ht:t.root<=9223372036854775807)(go:fD g x (rY t K))(ok:x.Ok)(hs:SF w D (xH k bx bm x dn rs) A [] (xW x) w):Calls Tryz.prog 84 #[.pointer (some ⟨bx,0,none⟩),Ko t] w λ e w'=>∃q:Int×XS×List aL,e=.returned (.int .i64 q.1)/\Nx g x q.2.1 q.2.2 (K q.1) q.1/\SF w D (xH k bx bm q.2.1 dn rs) [] (aV q.2.2) (xW q.2.1) w':=by
 refine enter Tryz.func84 Tryz.ntmps84 rfl rfl (bX hs) ?_
 simp only[cP]
 simp only[Ko]
 refine J0 ?_;refine bP (λ x3=>?_);refine Ka3 ?_;refine J3 ?_;refine aC (cM (hs:=xH k bx bm x dn rs) (os:=xW x) (hc:=λ w hs=>oU hg t.root _ ht go ok hs)) (λ x11 h11=>?_);refine gP ?_;refine nA ?_;refine aB ?_
 (refine eF 16 (λ g16=>?_) (λ g16=>?_)<;>refine Ka0 ?_)
 all_goals (refine Ka0 ?_;(first|refine aH ?_|(refine aF ?_;refine aC (cM (hs:=xH k bx bm x11.2 dn rs) (os:=xW x11.2) (hc:=λ w hs=>cE x11.1 _ h11.bd h11.go h11.ok hs)) (λ x19 h19=>?_)));refine we ?_;refine aI ?_)
 all_goals
 refine aZ (λ c22=>?_) (λ c22=>?_)
 ·all_goals (refine Ka6 ?_)
  all_goals
   refine aQ Tryz.results84 (λ w hw=>?_)
   exact⟨(x11.1,x11.2,[]),rfl,h11.cD (by first|exact h11.go.bR (by assumption)|exact h19.1.to (λ _=>if_pos (by assumption))) h11.bd,hw.aT (hF:=by exact aW.nil)⟩
 ·try exact nv c22
  all_goals
   have g1:=h19.1.to (λ _=>if_neg c22)
   have hb1:=h19.2.i64 h11.ok.lL h11.ok.lc
  all_goals (refine Ag ?_;refine aB ?_;refine aC (cM (hs:=xH k bx bm x11.2 dn rs) (os:=xW x11.2) (hc:=λ w hs=>cE x11.1 _ h11.bd g1 h11.ok hs)) (λ x27 h27=>?_);refine cG ?_;refine aC (cM (hs:=xH k bx bm x11.2 dn rs) (os:=xW x11.2) (hc:=λ w hs=>oU hg (aA x11.2.L x11.1).nd.status _ hb1.2.2.2.2.2 h27.1 h11.ok hs)) (λ x29 h29=>?_);refine gP ?_)
  all_goals
   refine dV [6,30,31,32,33,34,35,36,37,38,39,40,41] (λ q:Int×XS×List aL=>[(6,.int .i64 q.1)]) (λ q=>Nx g x q.2.1 q.2.2 (Fy t x11.1 q.1 K) 0/\x11.1<=q.2.1.L.length) (λ q=>[(x3,.cells ⟨[.int .i64 t.root,.bool t.ro]⟩ 29 (0,0)),(bx,xO k bm q.2.1 dn rs),(bm,xM q.2.1)]) (λ q=>aV q.2.2) (λ q=>xW q.2.1) (by decide) (λ _=>by exact rfl) ?_ (λ q f hx=>?_)
   ·refine aR ?_
    refine wS ?_;refine sX ?_
    refine aZ (λ c31=>?_) (λ c31=>?_)
    ·have g2:=h29.go.to (λ _=>if_pos c31)
     have hv2:x11.1<=x29.2.L.length:=by have:=h29.len;have:=h11.bd;omega
     refine Kb0 ?_;refine aB ?_;refine aC (cM (hs:=xH k bx bm x29.2 dn rs) (os:=xW x29.2) (hc:=λ w hs=>L9 hg t x11.1 _ ht hv2 g2 h29.ok hs)) (λ x35 h35=>?_);refine aI ?_;refine wS ?_;refine nX ?_;refine aC (cM (hs:=xH k bx bm x35.1 dn rs) (os:=xW x35.1) (hc:=λ w hs=>cE x11.1 _ (by have:=h35.len;omega) h35.go h35.ok hs)) (λ x39 h39=>?_);refine cG ?_;refine aC (cM (hs:=xH k bx bm x35.1 dn rs) (os:=xW x35.1) (hc:=λ w hs=>oU hg (aA x35.1.L x11.1).nd.status _ (h39.2.i64 h35.ok.lL h35.ok.lc).2.2.2.2.2 h39.1 h35.ok hs)) (λ x41 h41=>?_);refine J1 ?_
     refine eO ((x41.1,x41.2,x35.2)) ?_ (hw1:=λ w hw=>by rw[List.append_nil] at hw;exact hw.v6)
     ·exact⟨((h11.trans h29).trans (h35.trans h41)).ext' h41.go (bF _),(show x11.1<=(x41.2.L.length:Int) by have:=h35.len;have:=h41.len;omega)⟩
    ·have g2:=h29.go.to (λ _=>if_neg c31)
     have hv2:x11.1<=x29.2.L.length:=by have:=h29.len;have:=h11.bd;omega
     refine bA ?_
     refine eO ((x29.1,x29.2,[])) ?_ (hw1:=λ w hw=>hw.back (hF:=by exact aW.nil))
     ·exact⟨(h11.trans h29).cD g2 (bF _),hv2⟩
   dsimp only[fY,List.map,List.cons_append,List.nil_append]
  all_goals (refine Kd1 ?_;refine aC (cM (hs:=xH k bx bm q.2.1 dn rs) (os:=xW q.2.1) (hc:=λ w hs=>C0 x11.1 q.1 _ hx.2 hx.1.go hx.1.ok hs)) (λ x45 h45=>?_);refine Ka3 ?_;refine J3 ?_;refine nX ?_;refine aC (cM (hs:=xH k bx bm q.2.1 dn rs) (os:=xW q.2.1) (hc:=λ w hs=>tS hg t.root x11.1 x45 _ ht h45.2 h45.1 hx.1.ok hs)) (λ x51 h51=>?_);refine aI ?_;refine Ka6 ?_)
  all_goals
   refine aQ Tryz.results84 (λ w hw=>?_)
   exact⟨(x45,x51.2,q.2.2),rfl,(hx.1.trans h51).ext' h51.go (by have:=h51.len;have:=h45.2;omega),hw.v4⟩
theorem rT(hg:g.Ok)(t:eA)(i bM n:Int)(K:Bool->Tr)(ht:t.root<=9223372036854775807)(hi:i<=x.L.length)(hn:n<=x.L.length)(go:fD g x (mX t i bM n K))(ok:x.Ok)(hs:SF w D (xH k bx bm x dn rs) A [] (xW x) w):Calls Tryz.prog 83 #[.pointer (some ⟨bx,0,none⟩),Ko t,.int .i64 i,.int .i64 bM,.int .i64 n] w λ e w'=>∃q:Bool×XS×List aL,e=.returned (.bool q.1)/\Nx g x q.2.1 q.2.2 (K q.1) 0/\SF w D (xH k bx bm q.2.1 dn rs) [] (aV q.2.2) (xW q.2.1) w':=by
 refine enter Tryz.func83 Tryz.ntmps83 rfl rfl (bX hs) ?_
 simp only[cP]
 simp only[Ko]
 refine J0 ?_;refine bP (λ x6=>?_);refine gP ?_;refine Kd1 ?_;refine aC (cM (hs:=xH k bx bm x dn rs) (os:=xW x) (hc:=λ w hs=>cE i _ hi go ok hs)) (λ x15 h15=>?_);refine cG ?_;refine nX ?_;refine aC (cM (hs:=xH k bx bm x dn rs) (os:=xW x) (hc:=λ w hs=>tS hg (aA x.L i).nd.main bM n _ (h15.2.i64 ok.lL ok.lc).2.2.2.1 hn h15.1 ok hs)) (λ x19 h19=>?_);refine mS ?_
 refine aZ (λ c20=>?_) (λ c20=>?_)
 ·refine cQ ?_
  refine aQ Tryz.results83 (λ w hw=>?_)
  exact⟨(false,x19.2,[]),rfl,h19.cD (h19.go.to (λ _=>if_neg (by simpa using c20))) (bF _),hw.aT (hF:=by exact aW.nil)⟩
 ·have g1:=h19.go.to (λ _=>if_pos (by simpa using c20))
  have hl19:=h19.len
  refine bA ?_;refine Kb0 ?_;refine nX ?_;refine aC (cM (hs:=xH k bx bm x19.2 dn rs) (os:=xW x19.2) (hc:=λ w hs=>M7 hg t i n _ ht (by omega) (by omega) g1 h19.ok hs)) (λ x25 h25=>?_);refine J1 ?_;refine nA ?_;refine C4 ?_
  (refine eF 31 (λ g31=>?_) (λ g31=>?_)<;>refine Ka0 ?_)
  all_goals (refine Ka0 ?_;refine zH ?_;refine J1 ?_)
  all_goals
  refine aQ Tryz.results83 (λ w hw=>?_)
  rw[List.append_nil] at hw
  first
   | exact⟨(x25.1==n,x25.2.1,x25.2.2),rfl,(h19.trans h25).cD h25.go (bF _),hw.v4⟩
   | exact⟨(false,x25.2.1,x25.2.2),rfl,(h19.trans h25).cD (h25.go.bR (by assumption)) (bF _),hw.v4⟩
end
end

/- Executions of the reference: RDCSS, RENEW; functions that read lists of nodes. -/
end Go.Proofs.YtadnboagdhcedaaGreatDoor
namespace Go.Ct
section
open Go Go.RowKit
theorem Ch.to{g:Gx}{x0 x X:XS}{F:Fr}{N:List aL}{t t':Tr}{b b':Int}(h:Ch x0 X F)(h2:Nx g x X N t b)(go:fD g X t')(hc:x0.cs.length<=X.cs.length)(hb:b'<=X.L.length):∃N,Nx g x0 X N t' b'/\∀f∈aV N,f.2=[]∨f∈F:=by
 obtain⟨N,h3,h4⟩:=h
 exact⟨N,⟨go,h2.ok,h3,hc,hb⟩,h4⟩
theorem XS.Ok.qQ{w0 w:World}{M:List Nat}{H:List (Nat×Obj)}{A F:Fr}{O:List Ow}{x:XS}(ok:x.Ok)(h:SF w0 M H A F O w)(hA:∀f∈aV x.L,f∈A)(r:Int):qP w (aA x.L r).nd (aA x.L r).xs (aA x.L r).ys:=h.Z4 (Ch.base (F:=F)) hA ok r
end
end Go.Ct
namespace Go.Proofs.YtadnboagdhcedaaGreatDoor
section
open Go Go.RowKit Go.Ct
structure tK(n:Nat)(o:Option (Nat×List Int)):Prop where
 out:∀q,o=some q->q.1<18446744073709551616/\q.2.length<=64/\∀r∈q.2,r<=n
theorem aq{b:Nat}{xs:List Int}(h:BV b xs):xs.length<=64:=by rw[h.len];exact uG b 64
theorem jh{xs:List Int}{p:Nat}{r v:Int}(h:v∈oY xs p r):v∈xs∨v=r:=by
 unfold oY at h
 rcases List.mem_append.1 h with h|h
 ·exact .inl (List.mem_of_mem_take h)
 ·rcases List.mem_cons.1 h with h|h
  ·exact .inr h
  ·exact .inl (List.mem_of_mem_drop h)
theorem m4{xs:List Int}{p:Nat}{r v:Int}(h:v∈tA xs p r):v∈xs∨v=r:=by
 unfold tA at h
 rcases List.mem_append.1 h with h|h
 ·exact .inl (List.mem_of_mem_take h)
 ·rcases List.mem_cons.1 h with h|h
  ·exact .inr h
  ·exact .inl (List.mem_of_mem_drop h)
theorem j4{xs:List Int}{p:Nat}{v:Int}(h:v∈qG xs p):v∈xs:=by
 unfold qG at h
 rcases List.mem_append.1 h with h|h
 ·exact List.mem_of_mem_take h
 ·exact List.mem_of_mem_drop h
section
variable{n:Nd}{xs:List Int}{ys:List Pr}{b m:Nat}
theorem m8(hb:n.bm=(b:Int))(hb2:b<18446744073709551616)(hx:∀r∈xs,r<=m){r:Int}(hr:r<=m)(i:Int):tK m (dk n xs ys b i r):=⟨λ q hq=>by
 unfold dk at hq
 split at hq
 ·rename_i h
  cases hq
  obtain⟨h1,h2,h3⟩:=h
  have hv:=h1.bv hb hb2
  obtain⟨e1,e2,e3,e4⟩:=qE h3
  have:=(Px hv (i:=i.toNat) (by omega) e3 h2).1
  rw[<- e4] at this
  exact⟨this.lt,aq this,λ v hv=>(jh hv).elim (hx v) (λ e=>e▸hr)⟩
 ·cases hq⟩
theorem ey(hb:n.bm=(b:Int))(hb2:b<18446744073709551616)(hx:∀r∈xs,r<=m){r:Int}(hr:r<=m)(i:Int):tK m (dr n xs ys b i r):=⟨λ q hq=>by
 unfold dr at hq
 split at hq
 ·rename_i h
  cases hq
  obtain⟨h1,h0,h2,h3⟩:=h
  have hv:=h1.bv hb hb2
  have e:i=((i.toNat:Nat):Int):=by omega
  have hk:i.toNat<64:=by omega
  rw[e] at h3 ⊢
  rw[oK b hk] at h3
  have:=(Di hv (i:=i.toNat) hk h3 h2).1
  rw[nV b hk,mU b hk]
  exact⟨this.lt,aq this,λ v hv=>(m4 hv).elim (hx v) (λ e=>e▸hr)⟩
 ·cases hq⟩
theorem fy(hb:n.bm=(b:Int))(hb2:b<18446744073709551616)(hx:∀r∈xs,r<=m)(i:Int):tK m (dm n xs ys b i):=⟨λ q hq=>by
 unfold dm at hq
 split at hq
 ·rename_i h
  cases hq
  obtain⟨h1,h3⟩:=h
  have hv:=h1.bv hb hb2
  obtain⟨e1,e2,e3,e4⟩:=qE h3
  have hk:i.toNat<64:=by omega
  have:=(N0 hv (i:=i.toNat) hk e3).1
  have e:i=((i.toNat:Nat):Int):=by omega
  rw[e,qR b hk,mU b hk]
  exact⟨this.lt,aq this,λ v hv=>hx v (j4 hv)⟩
 ·cases hq⟩
end
theorem tK.nvB{m c:Nat}{o:Option (Nat×List Int)}(h:tK m o)(x:Option Addr×Nat):nU m c {(lG o x).c (kO o) [] with main:=0,prev:=0,status:=0}:=by
 rw[Em]
 cases o with
 | none=>exact⟨bF _,bF _,bF _,(λ r hr=>nomatch hr),bF _,bF _,bF _,⟨0,rfl,by decide⟩,⟨0,rfl,by decide⟩⟩
 | some q =>
  have h1:=h.out q rfl
  exact⟨bF _,bF _,bF _,h1.2.2,bF _,bF _,bF _,⟨q.1,rfl,h1.1⟩,⟨0,rfl,by decide⟩⟩
theorem tK.len{m:Nat}{o:Option (Nat×List Int)}(h:tK m o):(kO o).length<=274877906944:=by
 cases o with
 | none=>exact Nat.zero_le _
 | some q=>exact Nat.le_trans (h.out q rfl).2.1 (by decide)
theorem Cj(o:Option (Nat×List Int))(x:Option Addr×Nat):(lG o x).brN=(kO o).length:=by cases o<;>rfl
theorem Ci(o:Option (Nat×List Int))(x:Option Addr×Nat):(lG o x).prN=([]:List Pr).length:=by cases o<;>rfl
theorem Qf{A F:Fr}{O:List Ow}{o:Option (Nat×List Int)}{x:Option Addr×Nat}:bQ A ((x.1,aG (kO o))::F) O [((lG o x).brA,aG (kO o)),((lG o x).prA,dF [])]:=by
 cases o with
 | none=>exact .cons (.inl rfl) (.cons (.inl rfl) .nil)
 | some q=>exact .cons (.inr (.inr (.inl (.head _)))) (.cons (.inl rfl) .nil)
section
variable{v:aL}{n c:Nat}{w:World}
theorem eE(h:nU n c v.c):v.nd.bm=((v.c.bm.toNat:Nat):Int)/\v.c.bm.toNat<18446744073709551616:=by
 obtain⟨b,h1,h2⟩:=h.bm
 have h3:v.nd.bm=(b:Int):=h1
 have h4:v.c.bm=(b:Int):=h1
 rw[h3,h4]
 exact⟨by simp,by simpa using h2⟩
theorem Hk(h:nU n c v.c)(i:Int)(hr:qP w v.nd v.xs v.ys):Calls Tryz.prog 115 #[v.nd.v,.int .i64 i] w λ e w'=>e=.returned (.tuple #[.int .i64 ((jT v.c i).getD 0),.bool (jT v.c i).isSome])/\St w [] [] w':=by
 have h1:=eE h
 have:=mH (n:=v.nd) i h1.1 h1.2 hr
 rw[xa h1.1 i] at this
 exact this
theorem oV(h:nU n c v.c)(i:Int):(jT v.c i).getD 0<=n:=by
 have h1:=eE h
 have e:=xa (xs:=v.xs) (ys:=v.ys) h1.1 i
 rw[show jT v.c i=jT (v.nd.c v.xs v.ys) i from rfl,<- e]
 unfold Ib
 split
 ·exact mA h.br _
 ·exact bF _
abbrev Ny(v:aL)(i r:Int):Option (Nat×List Int):=dk v.nd v.xs v.ys v.c.bm.toNat i r
abbrev V4(v:aL)(i r:Int):Option (Nat×List Int):=dr v.nd v.xs v.ys v.c.bm.toNat i r
abbrev Wm(v:aL)(i:Int):Option (Nat×List Int):=dm v.nd v.xs v.ys v.c.bm.toNat i
theorem wv(h:nU n c v.c)(i r:Int)(x:Option Addr×Nat):P5 v.c i r=(lG (Ny v i r) x).c (kO (Ny v i r)) []:=by
 rw[Em]
 exact(z4 (eE h).1 i r).symm
theorem wq(h:nU n c v.c)(i r:Int)(x:Option Addr×Nat):uc v.c i r=(lG (V4 v i r) x).c (kO (V4 v i r)) []:=by
 rw[Em]
 exact(aAA (eE h).1 i r).symm
theorem pw(h:nU n c v.c)(i:Int)(x:Option Addr×Nat):Kn v.c i=(lG (Wm v i) x).c (kO (Wm v i)) []:=by
 rw[Em]
 exact(yi (eE h).1 i).symm
theorem ov(h:nU n c v.c)(i r:Int)(hr:qP w v.nd v.xs v.ys):Calls Tryz.prog 118 #[v.nd.v,.int .i64 i,.int .i64 r] w (Uq w (Ny v i r)):=Jd (n:=v.nd) i r (eE h).1 (eE h).2 hr
theorem ap(h:nU n c v.c)(i r:Int)(hr:qP w v.nd v.xs v.ys):Calls Tryz.prog 153 #[v.nd.v,.int .i64 i,.int .i64 r] w (Uq w (V4 v i r)):=Fv (n:=v.nd) i r (eE h).1 (eE h).2 hr
theorem aAo(h:nU n c v.c)(i:Int)(hr:qP w v.nd v.xs v.ys):Calls Tryz.prog 156 #[v.nd.v,.int .i64 i] w (Uq w (Wm v i)):=Jm (n:=v.nd) i (eE h).1 (eE h).2 hr
theorem V9(h:nU n c v.c){r:Int}(hr:r<=n)(i:Int):tK n (Ny v i r):=m8 (eE h).1 (eE h).2 h.br hr i
theorem yy(h:nU n c v.c){r:Int}(hr:r<=n)(i:Int):tK n (V4 v i r):=ey (eE h).1 (eE h).2 h.br hr i
theorem wi(h:nU n c v.c)(i:Int):tK n (Wm v i):=fy (eE h).1 (eE h).2 h.br i
end
theorem qL{n c:Nat}{g:Int}:nU n c {(({Nd.zero with kind:=2,gen:=g}:Nd).c [] []) with main:=0,prev:=0,status:=0}:=⟨bF _,bF _,bF _,(λ r hr=>nomatch hr),bF _,bF _,bF _,⟨0,rfl,by decide⟩,⟨0,rfl,by decide⟩⟩
section
variable{k:Cl}{bx bm:Nat}{x:XS}{dn:Bool}{rs:Rs}{D:List Nat}{A:Fr}{w:World}{g:Gx}
theorem Jc(hg:g.Ok)(t:eA)(o ex n:Int)(K:Bool->Tr)(ht:t.root<=9223372036854775807)(ho:o<=x.L.length)(he:ex<=x.L.length)(hn:n<=x.L.length)(go:fD g x (tT t o ex n K))(ok:x.Ok)(hs:SF w D (xH k bx bm x dn rs) A [] (xW x) w):Calls Tryz.prog 85 #[.pointer (some ⟨bx,0,none⟩),Ko t,.int .i64 o,.int .i64 ex,.int .i64 n] w λ e w'=>∃q:Bool×XS×List aL,e=.returned (.bool q.1)/\Nx g x q.2.1 q.2.2 (K q.1) 0/\SF w D (xH k bx bm q.2.1 dn rs) [] (aV q.2.2) (xW q.2.1) w':=by
 refine enter Tryz.func85 Tryz.ntmps85 rfl rfl (bX hs) ?_
 simp only[cP]
 simp only[Ko]
 refine J0 ?_;refine bP (λ x6=>?_);refine sV ?_;refine nX ?_;refine bD ?_;refine aC (cM (hs:=xH k bx bm x dn rs) (os:=xW x) (A0:=[(none,aG []),(none,dF [])]) (hc:=λ w hs=>fR hg (n:={Nd.zero with kind:=8,bM:=o,exp:=ex,new:=n}) (xs:=[]) (ys:=[]) 0 _ rfl rfl (by decide) (Nat.zero_le _) (Yb ho he hn) (bF _) go ok hs)) (λ x18 h18=>?_);refine gP ?_;refine J2 ?_;refine J3 ?_;refine nX ?_;refine aC (cM (hs:=xH k bx bm x18.2.1 dn rs) (os:=xW x18.2.1) (hc:=λ w hs=>tS hg t.root o x18.1 _ ht h18.bd h18.go h18.ok hs)) (λ x24 h24=>?_);refine mS ?_
 refine aZ (λ c25=>?_) (λ c25=>?_)
 ·refine cQ ?_
  refine aQ Tryz.results85 (λ w hw=>?_)
  obtain⟨N,hN,hf⟩:=(Ch.base (F:=[])).nx h18 |>.ur h24 |>.to h24 (h24.go.to (λ _=>if_neg (by simpa using c25))) (by have:=h18.lc;have:=h24.lc;omega) (bF _)
  exact⟨(false,x24.2,N),rfl,hN,(hw.eN hf).v4⟩
 ·have g1:=h24.go.to (λ _=>if_pos (by simpa using c25))
  have hl24:=h24.len
  have hb18:=h18.bd
  refine bA ?_;refine Kb0 ?_;refine aB ?_;refine aC (cM (hs:=xH k bx bm x24.2 dn rs) (os:=xW x24.2) (hc:=λ w hs=>L9 hg t x18.1 _ ht (by omega) g1 h24.ok hs)) (λ x29 h29=>?_);refine aI ?_;refine Kd1 ?_;refine aC (cM (hs:=xH k bx bm x29.1 dn rs) (os:=xW x29.1) (hc:=λ w hs=>cE x18.1 _ (by have:=h29.len;omega) h29.go h29.ok hs)) (λ x33 h33=>?_);refine cG ?_;refine aC (cM (hs:=xH k bx bm x29.1 dn rs) (os:=xW x29.1) (hc:=λ w hs=>oU hg (aA x29.1.L x18.1).nd.status _ (h33.2.i64 h29.ok.lL h29.ok.lc).2.2.2.2.2 h33.1 h29.ok hs)) (λ x35 h35=>?_);refine gP ?_;refine eG [(0,[]),(1,[]),(2,[]),(3,[]),(4,[]),(5,[]),(6,[]),(7,[2]),(8,[])] ?_;refine aS ?_;refine mB ?_;refine gN ?_;refine gN ?_;refine bC (i:=7) (hq:=(cM (hs:=xH k bx bm x35.2 dn rs) (os:=xW x35.2) (hc:=λ w hs=>C0 x18.1 x35.1 _ (by have:=h29.len;have:=h35.len;omega) h35.go h35.ok hs))) (h:=λ x43 h43=>?_);refine bC (i:=8) (hq:=(cM (hs:=xH k bx bm x35.2 dn rs) (os:=xW x35.2) (hc:=λ w hs=>tS hg t.root x18.1 x43 _ ht h43.2 h43.1 h35.ok hs))) (h:=λ x44 h44=>?_);refine dW ?_;refine nA ?_;refine C4 ?_
  (refine eF 50 (λ g50=>?_) (λ g50=>?_)<;>refine Ka0 ?_)
  all_goals (refine zH ?_;refine J1 ?_)
  all_goals
  refine aQ Tryz.results85 (λ w hw=>?_)
  first
   | (obtain⟨N,hN,hf⟩:=(Ch.nx h29 ((Ch.base (F:=[])).nx h18 |>.ur h24)) |>.ur h35 |>.ur h44 |>.to h44 h44.go (by have:=h18.lc;have:=h24.lc;have:=h29.lc;have:=h35.lc;have:=h44.lc;omega) (bF _);exact⟨(x35.1==1,x44.2,N),rfl,hN,(hw.eN hf).v4⟩)
   | (obtain⟨N,hN,hf⟩:=(Ch.nx h29 ((Ch.base (F:=[])).nx h18 |>.ur h24)) |>.ur h35 |>.ur h44 |>.to (t':=K false) h44 (h44.go.bR (by assumption)) (by have:=h18.lc;have:=h24.lc;have:=h29.lc;have:=h35.lc;have:=h44.lc;omega) (bF _);exact⟨(false,x44.2,N),rfl,hN,(hw.eN hf).v4⟩)
theorem Au(hg:g.Ok)(c index r:Int)(K:Int->Tr)(hc:c<=x.L.length)(hr:r<=x.L.length)(hA:∀f∈aV x.L,f∈A)(go:fD g x (Co c index r K))(ok:x.Ok)(hs:SF w D (xH k bx bm x dn rs) A [] (xW x) w):Calls Tryz.prog 116 #[.pointer (some ⟨bx,0,none⟩),.int .i64 c,.int .i64 index,.int .i64 r] w λ e w'=>∃q:Int×XS×List aL,e=.returned (.int .i64 q.1)/\Nx g x q.2.1 q.2.2 (K q.1) q.1/\SF w D (xH k bx bm q.2.1 dn rs) [] (aV q.2.2) (xW q.2.1) w':=by
 refine enter Tryz.func116 Tryz.ntmps116 rfl rfl (bX hs) ?_
 simp only[cP]
 refine cQ ?_;refine iQ ?_;refine aC (cM (hs:=xH k bx bm x dn rs) (os:=xW x) (hc:=λ w hs=>cE c _ hc go ok hs)) (λ x14 h14=>?_);refine nX ?_;refine aC (cF (hc:=λ w1 hw=>ov (v:=aA x.L c) (ok.nv c) index r (ok.qQ hw hA c))) (λ x17 h17=>?_);refine Fi ?_;refine aP (λ x9=>?_);refine B2 ?_;refine Kb0 ?_;refine aB ?_;refine aC (cM (hs:=xH k bx bm x dn rs) (os:=xW x) (A0:=[((lG (Ny (aA x.L c) index r) x17).brA,aG (kO (Ny (aA x.L c) index r))),((lG (Ny (aA x.L c) index r) x17).prA,dF [])]) (hA:=Qf) (hc:=λ w hs=>fR hg (n:=lG (Ny (aA x.L c) index r) x17) (xs:=kO (Ny (aA x.L c) index r)) (ys:=[]) c _ (Cj _ _) (Ci _ _) (V9 (ok.nv c) hr index).len (Nat.zero_le _) ((V9 (ok.nv c) hr index).nvB _) hc (by rw[<- wv (ok.nv c)];exact h14.1) ok hs)) (λ x23 h23=>?_);refine J1 ?_
 refine aQ Tryz.results116 (λ w hw=>?_)
 exact⟨x23,rfl,h23,hw.aT (hF:=by exact aW.oP λ f hf=>List.mem_append_left _ hf)⟩
end
end

end Go.Proofs.YtadnboagdhcedaaGreatDoor
