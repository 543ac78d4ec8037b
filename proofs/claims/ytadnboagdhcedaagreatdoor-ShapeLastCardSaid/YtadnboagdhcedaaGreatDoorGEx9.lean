/- Executions of the reference: READ, DECIDE, HELP, GCAS, RDCSS. -/
import Derived.Test.YtadnboagdhcedaaGreatDoorGEx6

set_option linter.unusedSimpArgs false
set_option linter.unusedVariables false
namespace Go.Ct
section
theorem Wt{n c:Nat}{a b d:Int}(h1:a<=n)(h2:b<=n)(h3:d<=n):nE n c {(({Nd.zero with kind:=8,bL:=a,exp:=b,new:=d}:Nd).c [] []) with main:=0,prev:=0,status:=0}:=⟨h1,h2,h3,(λ r hr=>nomatch hr),bE _,bE _,bE _,⟨0,rfl,by decide⟩,⟨0,rfl,by decide⟩⟩
end
end Go.Ct
namespace Go.Proofs.YtadnboagdhcedaaGreatDoor
section
open Go Go.RowKit Go.Ct
section
variable{k:Cl}{bx bm:Nat}{x:XS}{dn:Bool}{rs:Rs}{D:List Nat}{A:Fr}{w:World}{g:Gx}
theorem mQ(hg:g.Ok)(t:eQ)(i:Int)(K:Int->Tr)(ht:t.root<=9223372036854775807)(hi:i<=x.L.length)(go:eU g x (kX t i K))(ok:x.Ok)(hs:SF w D (xH k bx bm x dn rs) A [] (xW x) w):Calls Tryz.prog 82 #[.pointer (some ⟨bx,0,none⟩),Jc t,.int .i64 i] w λ e w'=>∃q:Int×XS×List aK,e=.returned (.int .i64 q.1)/\Nx g x q.2.1 q.2.2 (K q.1) q.1/\SF w D (xH k bx bm q.2.1 dn rs) [] (aY q.2.2) (xW q.2.1) w':=by
 refine enter Tryz.func82 Tryz.ntmps82 rfl rfl (cA hs) ?_
 simp only[cR]
 simp only[Jc]
 refine J0 ?_;refine bP (λ x4=>?_);refine gK ?_;refine eD [(0,[]),(1,[]),(2,[]),(3,[]),(4,[]),(5,[]),(6,[1]),(7,[]),(8,[1]),(9,[]),(10,[])] ?_;refine Kb5 ?_;refine gM ?_;refine gM ?_;refine bS (i:=6) (hq:=(cM (hs:=xH k bx bm x dn rs) (os:=xW x) (hc:=λ w hs=>cB i _ hi go ok hs))) (h:=λ x13 h13=>?_);refine Bj ?_;refine bS (i:=8) (hq:=(cM (hs:=xH k bx bm x dn rs) (os:=xW x) (hc:=λ w hs=>nM hg (aA x.L i).nd.main _ (h13.2.i64 ok.lL ok.lc).2.2.2.1 h13.1 ok hs))) (h:=λ x15 h15=>?_);refine bS (i:=9) (hq:=(cM (hs:=xH k bx bm x15.2 dn rs) (os:=xW x15.2) (hc:=λ w hs=>Ll hg t i x15.1 _ ht (by have:=h15.len;omega) h15.bd h15.go h15.ok hs))) (h:=λ x16 h16=>?_);refine J7 ?_
 refine aN Tryz.results82 (λ w hw=>?_)
 exact⟨x16,rfl,h15.trans h16,by rw[List.append_nil] at hw;exact hw.z7⟩
theorem Lj(hg:g.Ok)(t:eQ)(v:Int)(K:Tr)(ht:t.root<=9223372036854775807)(hv:v<=x.L.length)(go:eU g x (uG t v K))(ok:x.Ok)(hs:SF w D (xH k bx bm x dn rs) A [] (xW x) w):Calls Tryz.prog 112 #[.pointer (some ⟨bx,0,none⟩),Jc t,.int .i64 v] w λ e w'=>∃q:XS×List aK,e=.returned (.tuple #[])/\Nx g x q.1 q.2 K 0/\SF w D (xH k bx bm q.1 dn rs) [] (aY q.2) (xW q.1) w':=by
 refine enter Tryz.func112 Tryz.ntmps112 rfl rfl (cA hs) ?_
 simp only[cR]
 simp only[Jc]
 refine J0 ?_;refine bP (λ x4=>?_);refine aI ?_;refine Jb ?_;refine aS ?_;refine eD [(0,[]),(1,[]),(2,[]),(3,[]),(7,[]),(8,[]),(4,[1]),(5,[]),(6,[]),(9,[]),(10,[]),(11,[])] ?_;refine Kb5 ?_;refine gM ?_;refine gM ?_;refine bS (i:=4) (hq:=(cM (hs:=xH k bx bm x dn rs) (os:=xW x) (hc:=λ w hs=>cB v _ hv go ok hs))) (h:=λ x11 h11=>?_);refine Bj ?_;refine bS (i:=6) (hq:=(cM (hs:=xH k bx bm x dn rs) (os:=xW x) (hc:=λ w hs=>mQ hg t (aA x.L v).nd.bL _ ht h11.2.bL h11.1 ok hs))) (h:=λ x13 h13=>?_);refine bS (i:=9) (hq:=(cM (hs:=xH k bx bm x13.2.1 dn rs) (os:=xW x13.2.1) (hc:=λ w hs=>cB v _ (by have:=h13.len;omega) h13.go h13.ok hs))) (h:=λ x16 h16=>?_);refine Bj ?_;refine tG ?_;refine dV ?_
 refine aZ (λ c18=>?_) (λ c18=>?_)
 ·have gx:eU g x13.2.1 (.node v λ n3=>.nW n3.status 0 1 λ _=>K):=h16.1.to (λ _=>by rw[show x13.1=(aA x13.2.1.L v).c.exp from c18];simp only[if_true])
  have h2e:(1:Int)<=x13.2.1.L.length:=by have:=h13.ok.two;omega
  refine dO ?_;refine J1 ?_;refine yB ?_;refine nB ?_;refine aC (cM (hs:=xH k bx bm x13.2.1 dn rs) (os:=xW x13.2.1) (hc:=λ w hs=>cB v _ (by have:=h13.len;omega) gx h13.ok hs)) (λ x22 h22=>?_);refine cE ?_;refine aB ?_;(refine aR (by exact cM (hs:=xH k bx bm x13.2.1 dn rs) (os:=xW x13.2.1) (hc:=λ w hs=>sV hg (aA x13.2.1.L v).nd.status 0 1 _ (h22.2.i64 h13.ok.lL h13.ok.lc).2.2.2.2.2 h2e h22.1 h13.ok hs)) (λ x25=>?_);try (refine eX (λ h25=>?_)));refine aI ?_
  refine G5 Tryz.results112 (λ w hw=>?_)
  rw[List.append_nil] at hw
  exact⟨(x25.2,x13.2.2),rfl,(h13.trans h25).ext' h25.go (bE _),hw.z7⟩
 ·have gx:eU g x13.2.1 (.node v λ n3=>.nW n3.status 0 2 λ _=>K):=h16.1.to (λ _=>by simp only[if_neg (show ¬x13.1=(aA x13.2.1.L v).c.exp from c18)])
  have h2e:(2:Int)<=x13.2.1.L.length:=by have:=h13.ok.two;omega
  refine bA ?_;refine yB ?_;refine nB ?_;refine aC (cM (hs:=xH k bx bm x13.2.1 dn rs) (os:=xW x13.2.1) (hc:=λ w hs=>cB v _ (by have:=h13.len;omega) gx h13.ok hs)) (λ x22 h22=>?_);refine cE ?_;refine aB ?_;(refine aR (by exact cM (hs:=xH k bx bm x13.2.1 dn rs) (os:=xW x13.2.1) (hc:=λ w hs=>sV hg (aA x13.2.1.L v).nd.status 0 2 _ (h22.2.i64 h13.ok.lL h13.ok.lc).2.2.2.2.2 h2e h22.1 h13.ok hs)) (λ x25=>?_);try (refine eX (λ h25=>?_)));refine aI ?_
  refine G5 Tryz.results112 (λ w hw=>?_)
  rw[List.append_nil] at hw
  exact⟨(x25.2,x13.2.2),rfl,(h13.trans h25).ext' h25.go (bE _),hw.z7⟩
theorem zN(hg:g.Ok)(t:eQ)(K:Int->Tr)(ht:t.root<=9223372036854775807)(go:eU g x (rH t K))(ok:x.Ok)(hs:SF w D (xH k bx bm x dn rs) A [] (xW x) w):Calls Tryz.prog 84 #[.pointer (some ⟨bx,0,none⟩),Jc t] w λ e w'=>∃q:Int×XS×List aK,e=.returned (.int .i64 q.1)/\Nx g x q.2.1 q.2.2 (K q.1) q.1/\SF w D (xH k bx bm q.2.1 dn rs) [] (aY q.2.2) (xW q.2.1) w':=by
 refine enter Tryz.func84 Tryz.ntmps84 rfl rfl (cA hs) ?_
 simp only[cR]
 simp only[Jc]
 refine J0 ?_;refine bP (λ x3=>?_);refine Ka4 ?_;refine J3 ?_;refine aC (cM (hs:=xH k bx bm x dn rs) (os:=xW x) (hc:=λ w hs=>nM hg t.root _ ht go ok hs)) (λ x11 h11=>?_);refine gK ?_;refine mV ?_;refine aB ?_
 (refine eR 16 (λ g16=>?_) (λ g16=>?_)<;>refine Ka1 ?_)
 all_goals (refine Ka1 ?_;(first|refine aH ?_|(refine aF ?_;refine aC (cM (hs:=xH k bx bm x11.2 dn rs) (os:=xW x11.2) (hc:=λ w hs=>cB x11.1 _ h11.bd h11.go h11.ok hs)) (λ x19 h19=>?_)));refine sv ?_;refine aI ?_)
 all_goals
 refine aZ (λ c22=>?_) (λ c22=>?_)
 ·all_goals (refine Ka6 ?_)
  all_goals
   refine aN Tryz.results84 (λ w hw=>?_)
   exact⟨(x11.1,x11.2,[]),rfl,h11.cC (by first|exact h11.go.bO (by assumption)|exact h19.1.to (λ _=>if_pos (by assumption))) h11.bd,hw.aU (hF:=by exact aX.nil)⟩
 ·try exact nv c22
  all_goals
   have g1:=h19.1.to (λ _=>if_neg c22)
   have hb1:=h19.2.i64 h11.ok.lL h11.ok.lc
  all_goals (refine yT ?_;refine aB ?_;refine aC (cM (hs:=xH k bx bm x11.2 dn rs) (os:=xW x11.2) (hc:=λ w hs=>cB x11.1 _ h11.bd g1 h11.ok hs)) (λ x27 h27=>?_);refine cE ?_;refine aC (cM (hs:=xH k bx bm x11.2 dn rs) (os:=xW x11.2) (hc:=λ w hs=>nM hg (aA x11.2.L x11.1).nd.status _ hb1.2.2.2.2.2 h27.1 h11.ok hs)) (λ x29 h29=>?_);refine gK ?_)
  all_goals
   refine eL [6,30,31,32,33,34,35,36,37,38,39,40,41] (λ q:Int×XS×List aK=>[(6,.int .i64 q.1)]) (λ q=>Nx g x q.2.1 q.2.2 (E1 t x11.1 q.1 K) 0/\x11.1<=q.2.1.L.length) (λ q=>[(x3,.cells ⟨[.int .i64 t.root,.bool t.ro]⟩ 29 (0,0)),(bx,xO k bm q.2.1 dn rs),(bm,xM q.2.1)]) (λ q=>aY q.2.2) (λ q=>xW q.2.1) (by decide) (λ _=>by exact rfl) ?_ (λ q f hx=>?_)
   ·refine aS ?_
    refine yB ?_;refine rR ?_
    refine aZ (λ c31=>?_) (λ c31=>?_)
    ·have g2:=h29.go.to (λ _=>if_pos c31)
     have hv2:x11.1<=x29.2.L.length:=by have:=h29.len;have:=h11.bd;omega
     refine Ka9 ?_;refine aB ?_;refine aC (cM (hs:=xH k bx bm x29.2 dn rs) (os:=xW x29.2) (hc:=λ w hs=>Lj hg t x11.1 _ ht hv2 g2 h29.ok hs)) (λ x35 h35=>?_);refine aI ?_;refine yB ?_;refine nB ?_;refine aC (cM (hs:=xH k bx bm x35.1 dn rs) (os:=xW x35.1) (hc:=λ w hs=>cB x11.1 _ (by have:=h35.len;omega) h35.go h35.ok hs)) (λ x39 h39=>?_);refine cE ?_;refine aC (cM (hs:=xH k bx bm x35.1 dn rs) (os:=xW x35.1) (hc:=λ w hs=>nM hg (aA x35.1.L x11.1).nd.status _ (h39.2.i64 h35.ok.lL h35.ok.lc).2.2.2.2.2 h39.1 h35.ok hs)) (λ x41 h41=>?_);refine J1 ?_
     refine gA ((x41.1,x41.2,x35.2)) ?_ (hw1:=λ w hw=>by rw[List.append_nil] at hw;exact hw.v1)
     ·exact⟨((h11.trans h29).trans (h35.trans h41)).ext' h41.go (bE _),(show x11.1<=(x41.2.L.length:Int) by have:=h35.len;have:=h41.len;omega)⟩
    ·have g2:=h29.go.to (λ _=>if_neg c31)
     have hv2:x11.1<=x29.2.L.length:=by have:=h29.len;have:=h11.bd;omega
     refine bA ?_
     refine gA ((x29.1,x29.2,[])) ?_ (hw1:=λ w hw=>hw.back (hF:=by exact aX.nil))
     ·exact⟨(h11.trans h29).cC g2 (bE _),hv2⟩
   dsimp only[gG,List.map,List.cons_append,List.nil_append]
  all_goals (refine iF ?_;refine aB ?_;refine aC (cM (hs:=xH k bx bm q.2.1 dn rs) (os:=xW q.2.1) (hc:=λ w hs=>Ec x11.1 q.1 _ hx.2 hx.1.go hx.1.ok hs)) (λ x45 h45=>?_);refine Ka4 ?_;refine J3 ?_;refine nB ?_;refine aC (cM (hs:=xH k bx bm q.2.1 dn rs) (os:=xW q.2.1) (hc:=λ w hs=>sV hg t.root x11.1 x45 _ ht h45.2 h45.1 hx.1.ok hs)) (λ x51 h51=>?_);refine aI ?_;refine Ka6 ?_)
  all_goals
   refine aN Tryz.results84 (λ w hw=>?_)
   exact⟨(x45,x51.2,q.2.2),rfl,(hx.1.trans h51).ext' h51.go (by have:=h51.len;have:=h45.2;omega),hw.z7⟩
theorem rC(hg:g.Ok)(t:eQ)(i bL n:Int)(K:Bool->Tr)(ht:t.root<=9223372036854775807)(hi:i<=x.L.length)(hn:n<=x.L.length)(go:eU g x (mA t i bL n K))(ok:x.Ok)(hs:SF w D (xH k bx bm x dn rs) A [] (xW x) w):Calls Tryz.prog 83 #[.pointer (some ⟨bx,0,none⟩),Jc t,.int .i64 i,.int .i64 bL,.int .i64 n] w λ e w'=>∃q:Bool×XS×List aK,e=.returned (.bool q.1)/\Nx g x q.2.1 q.2.2 (K q.1) 0/\SF w D (xH k bx bm q.2.1 dn rs) [] (aY q.2.2) (xW q.2.1) w':=by
 refine enter Tryz.func83 Tryz.ntmps83 rfl rfl (cA hs) ?_
 simp only[cR]
 simp only[Jc]
 refine J0 ?_;refine bP (λ x6=>?_);refine gK ?_;refine iF ?_;refine aB ?_;refine aC (cM (hs:=xH k bx bm x dn rs) (os:=xW x) (hc:=λ w hs=>cB i _ hi go ok hs)) (λ x15 h15=>?_);refine cE ?_;refine nB ?_;refine aC (cM (hs:=xH k bx bm x dn rs) (os:=xW x) (hc:=λ w hs=>sV hg (aA x.L i).nd.main bL n _ (h15.2.i64 ok.lL ok.lc).2.2.2.1 hn h15.1 ok hs)) (λ x19 h19=>?_);refine lX ?_
 refine aZ (λ c20=>?_) (λ c20=>?_)
 ·refine cN ?_
  refine aN Tryz.results83 (λ w hw=>?_)
  exact⟨(false,x19.2,[]),rfl,h19.cC (h19.go.to (λ _=>if_neg (by simpa using c20))) (bE _),hw.aU (hF:=by exact aX.nil)⟩
 ·have g1:=h19.go.to (λ _=>if_pos (by simpa using c20))
  have hl19:=h19.len
  refine bA ?_;refine Ka9 ?_;refine nB ?_;refine aC (cM (hs:=xH k bx bm x19.2 dn rs) (os:=xW x19.2) (hc:=λ w hs=>Ll hg t i n _ ht (by omega) (by omega) g1 h19.ok hs)) (λ x25 h25=>?_);refine J1 ?_;refine mV ?_;refine El ?_
  (refine eR 31 (λ g31=>?_) (λ g31=>?_)<;>refine Ka1 ?_)
  all_goals (refine Ka1 ?_;refine wQ ?_;refine J1 ?_)
  all_goals
  refine aN Tryz.results83 (λ w hw=>?_)
  rw[List.append_nil] at hw
  first
   | exact⟨(x25.1==n,x25.2.1,x25.2.2),rfl,(h19.trans h25).cC h25.go (bE _),hw.z7⟩
   | exact⟨(false,x25.2.1,x25.2.2),rfl,(h19.trans h25).cC (h25.go.bO (by assumption)) (bE _),hw.z7⟩
end
end

/- Executions of the reference: RDCSS, RENEW; functions that read lists of nodes. -/
end Go.Proofs.YtadnboagdhcedaaGreatDoor
namespace Go.Ct
section
open Go Go.RowKit
theorem Ch.to{g:Gx}{x0 x X:XS}{F:Fr}{N:List aK}{t t':Tr}{b b':Int}(h:Ch x0 X F)(h2:Nx g x X N t b)(go:eU g X t')(hc:x0.cs.length<=X.cs.length)(hb:b'<=X.L.length):∃N,Nx g x0 X N t' b'/\∀f∈aY N,f.2=[]∨f∈F:=by
 obtain⟨N,h3,h4⟩:=h
 exact⟨N,⟨go,h2.ok,h3,hc,hb⟩,h4⟩
theorem XS.Ok.pU{w0 w:World}{M:List Nat}{H:List (Nat×Obj)}{A F:Fr}{O:List Ow}{x:XS}(ok:x.Ok)(h:SF w0 M H A F O w)(hA:∀f∈aY x.L,f∈A)(r:Int):pT w (aA x.L r).nd (aA x.L r).xs (aA x.L r).ys:=h.Yh (Ch.base (F:=F)) hA ok r
end
end Go.Ct
namespace Go.Proofs.YtadnboagdhcedaaGreatDoor
section
open Go Go.RowKit Go.Ct
structure tR(n:Nat)(o:Option (Nat×List Int)):Prop where
 out:∀q,o=some q->q.1<18446744073709551616/\q.2.length<=64/\∀r∈q.2,r<=n
theorem Xe{b:Nat}{xs:List Int}(h:BV b xs):xs.length<=64:=by rw[h.len];exact tC b 64
theorem av{xs:List Int}{p:Nat}{r v:Int}(h:v∈oG xs p r):v∈xs∨v=r:=by
 unfold oG at h
 rcases List.mem_append.1 h with h|h
 ·exact .inl (List.mem_of_mem_take h)
 ·rcases List.mem_cons.1 h with h|h
  ·exact .inr h
  ·exact .inl (List.mem_of_mem_drop h)
theorem gg{xs:List Int}{p:Nat}{r v:Int}(h:v∈tX xs p r):v∈xs∨v=r:=by
 unfold tX at h
 rcases List.mem_append.1 h with h|h
 ·exact .inl (List.mem_of_mem_take h)
 ·rcases List.mem_cons.1 h with h|h
  ·exact .inr h
  ·exact .inl (List.mem_of_mem_drop h)
theorem a6{xs:List Int}{p:Nat}{v:Int}(h:v∈pL xs p):v∈xs:=by
 unfold pL at h
 rcases List.mem_append.1 h with h|h
 ·exact List.mem_of_mem_take h
 ·exact List.mem_of_mem_drop h
section
variable{n:Nd}{xs:List Int}{ys:List Pr}{b m:Nat}
theorem bj(hb:n.bm=(b:Int))(hb2:b<18446744073709551616)(hx:∀r∈xs,r<=m){r:Int}(hr:r<=m)(i:Int):tR m (Zz n xs ys b i r):=⟨λ q hq=>by
 unfold Zz at hq
 split at hq
 ·rename_i h
  cases hq
  obtain⟨h1,h2,h3⟩:=h
  have hv:=h1.bv hb hb2
  obtain⟨e1,e2,e3,e4⟩:=pI h3
  have:=(M3 hv (i:=i.toNat) (by omega) e3 h2).1
  rw[<- e4] at this
  exact⟨this.lt,Xe this,λ v hv=>(av hv).elim (hx v) (λ e=>e▸hr)⟩
 ·cases hq⟩
theorem aw(hb:n.bm=(b:Int))(hb2:b<18446744073709551616)(hx:∀r∈xs,r<=m){r:Int}(hr:r<=m)(i:Int):tR m (Zy n xs ys b i r):=⟨λ q hq=>by
 unfold Zy at hq
 split at hq
 ·rename_i h
  cases hq
  obtain⟨h1,h0,h2,h3⟩:=h
  have hv:=h1.bv hb hb2
  have e:i=((i.toNat:Nat):Int):=by omega
  have hk:i.toNat<64:=by omega
  rw[e] at h3 ⊢
  rw[nV b hk] at h3
  have:=(Cn hv (i:=i.toNat) hk h3 h2).1
  rw[nJ b hk,mC b hk]
  exact⟨this.lt,Xe this,λ v hv=>(gg hv).elim (hx v) (λ e=>e▸hr)⟩
 ·cases hq⟩
theorem cy(hb:n.bm=(b:Int))(hb2:b<18446744073709551616)(hx:∀r∈xs,r<=m)(i:Int):tR m (Z0 n xs ys b i):=⟨λ q hq=>by
 unfold Z0 at hq
 split at hq
 ·rename_i h
  cases hq
  obtain⟨h1,h3⟩:=h
  have hv:=h1.bv hb hb2
  obtain⟨e1,e2,e3,e4⟩:=pI h3
  have hk:i.toNat<64:=by omega
  have:=(Nj hv (i:=i.toNat) hk e3).1
  have e:i=((i.toNat:Nat):Int):=by omega
  rw[e,qP b hk,mC b hk]
  exact⟨this.lt,Xe this,λ v hv=>hx v (a6 hv)⟩
 ·cases hq⟩
end
theorem tR.ym{m c:Nat}{o:Option (Nat×List Int)}(h:tR m o)(x:Option Addr×Nat):nE m c {(kW o x).c (kE o) [] with main:=0,prev:=0,status:=0}:=by
 rw[Dd]
 cases o with
 | none=>exact⟨bE _,bE _,bE _,(λ r hr=>nomatch hr),bE _,bE _,bE _,⟨0,rfl,by decide⟩,⟨0,rfl,by decide⟩⟩
 | some q =>
  have h1:=h.out q rfl
  exact⟨bE _,bE _,bE _,h1.2.2,bE _,bE _,bE _,⟨q.1,rfl,h1.1⟩,⟨0,rfl,by decide⟩⟩
theorem tR.len{m:Nat}{o:Option (Nat×List Int)}(h:tR m o):(kE o).length<=274877906944:=by
 cases o with
 | none=>exact Nat.zero_le _
 | some q=>exact Nat.le_trans (h.out q rfl).2.1 (by decide)
theorem Be(o:Option (Nat×List Int))(x:Option Addr×Nat):(kW o x).brN=(kE o).length:=by cases o<;>rfl
theorem Bn(o:Option (Nat×List Int))(x:Option Addr×Nat):(kW o x).prN=([]:List Pr).length:=by cases o<;>rfl
theorem Od{A F:Fr}{O:List Ow}{o:Option (Nat×List Int)}{x:Option Addr×Nat}:bT A ((x.1,aG (kE o))::F) O [((kW o x).brA,aG (kE o)),((kW o x).prA,cZ [])]:=by
 cases o with
 | none=>exact .cons (.inl rfl) (.cons (.inl rfl) .nil)
 | some q=>exact .cons (.inr (.inr (.inl (.head _)))) (.cons (.inl rfl) .nil)
section
variable{v:aK}{n c:Nat}{w:World}
theorem dW(h:nE n c v.c):v.nd.bm=((v.c.bm.toNat:Nat):Int)/\v.c.bm.toNat<18446744073709551616:=by
 obtain⟨b,h1,h2⟩:=h.bm
 have h3:v.nd.bm=(b:Int):=h1
 have h4:v.c.bm=(b:Int):=h1
 rw[h3,h4]
 exact⟨by simp,by simpa using h2⟩
theorem F2(h:nE n c v.c)(i:Int)(hr:pT w v.nd v.xs v.ys):Calls Tryz.prog 115 #[v.nd.v,.int .i64 i] w λ e w'=>e=.returned (.tuple #[.int .i64 ((jF v.c i).getD 0),.bool (jF v.c i).isSome])/\St w [] [] w':=by
 have h1:=dW h
 have:=mE (n:=v.nd) i h1.1 h1.2 hr
 rw[ti h1.1 i] at this
 exact this
theorem oB(h:nE n c v.c)(i:Int):(jF v.c i).getD 0<=n:=by
 have h1:=dW h
 have e:=ti (xs:=v.xs) (ys:=v.ys) h1.1 i
 rw[show jF v.c i=jF (v.nd.c v.xs v.ys) i from rfl,<- e]
 unfold G6
 split
 ·exact lO h.br _
 ·exact bE _
abbrev Me(v:aK)(i r:Int):Option (Nat×List Int):=Zz v.nd v.xs v.ys v.c.bm.toNat i r
abbrev Uk(v:aK)(i r:Int):Option (Nat×List Int):=Zy v.nd v.xs v.ys v.c.bm.toNat i r
abbrev Vz(v:aK)(i:Int):Option (Nat×List Int):=Z0 v.nd v.xs v.ys v.c.bm.toNat i
theorem vw(h:nE n c v.c)(i r:Int)(x:Option Addr×Nat):Np v.c i r=(kW (Me v i r) x).c (kE (Me v i r)) []:=by
 rw[Dd]
 exact(v5 (dW h).1 i r).symm
theorem xk(h:nE n c v.c)(i r:Int)(x:Option Addr×Nat):qe v.c i r=(kW (Uk v i r) x).c (kE (Uk v i r)) []:=by
 rw[Dd]
 exact(yv (dW h).1 i r).symm
theorem jw(h:nE n c v.c)(i:Int)(x:Option Addr×Nat):I9 v.c i=(kW (Vz v i) x).c (kE (Vz v i)) []:=by
 rw[Dd]
 exact(uk (dW h).1 i).symm
theorem lh(h:nE n c v.c)(i r:Int)(hr:pT w v.nd v.xs v.ys):Calls Tryz.prog 118 #[v.nd.v,.int .i64 i,.int .i64 r] w (Tm w (Me v i r)):=Hk (n:=v.nd) i r (dW h).1 (dW h).2 hr
theorem Zx(h:nE n c v.c)(i r:Int)(hr:pT w v.nd v.xs v.ys):Calls Tryz.prog 153 #[v.nd.v,.int .i64 i,.int .i64 r] w (Tm w (Uk v i r)):=Ep (n:=v.nd) i r (dW h).1 (dW h).2 hr
theorem w5(h:nE n c v.c)(i:Int)(hr:pT w v.nd v.xs v.ys):Calls Tryz.prog 156 #[v.nd.v,.int .i64 i] w (Tm w (Vz v i)):=Hz (n:=v.nd) i (dW h).1 (dW h).2 hr
theorem X5(h:nE n c v.c){r:Int}(hr:r<=n)(i:Int):tR n (Me v i r):=bj (dW h).1 (dW h).2 h.br hr i
theorem tk(h:nE n c v.c){r:Int}(hr:r<=n)(i:Int):tR n (Uk v i r):=aw (dW h).1 (dW h).2 h.br hr i
theorem vq(h:nE n c v.c)(i:Int):tR n (Vz v i):=cy (dW h).1 (dW h).2 h.br i
end
theorem pC{n c:Nat}{g:Int}:nE n c {(({Nd.zero with kind:=2,gen:=g}:Nd).c [] []) with main:=0,prev:=0,status:=0}:=⟨bE _,bE _,bE _,(λ r hr=>nomatch hr),bE _,bE _,bE _,⟨0,rfl,by decide⟩,⟨0,rfl,by decide⟩⟩
section
variable{k:Cl}{bx bm:Nat}{x:XS}{dn:Bool}{rs:Rs}{D:List Nat}{A:Fr}{w:World}{g:Gx}
theorem I1(hg:g.Ok)(t:eQ)(o ex n:Int)(K:Bool->Tr)(ht:t.root<=9223372036854775807)(ho:o<=x.L.length)(he:ex<=x.L.length)(hn:n<=x.L.length)(go:eU g x (tD t o ex n K))(ok:x.Ok)(hs:SF w D (xH k bx bm x dn rs) A [] (xW x) w):Calls Tryz.prog 85 #[.pointer (some ⟨bx,0,none⟩),Jc t,.int .i64 o,.int .i64 ex,.int .i64 n] w λ e w'=>∃q:Bool×XS×List aK,e=.returned (.bool q.1)/\Nx g x q.2.1 q.2.2 (K q.1) 0/\SF w D (xH k bx bm q.2.1 dn rs) [] (aY q.2.2) (xW q.2.1) w':=by
 refine enter Tryz.func85 Tryz.ntmps85 rfl rfl (cA hs) ?_
 simp only[cR]
 simp only[Jc]
 refine J0 ?_;refine bP (λ x6=>?_);refine tZ ?_;refine nB ?_;refine bD ?_;refine aC (cM (hs:=xH k bx bm x dn rs) (os:=xW x) (A0:=[(none,aG []),(none,cZ [])]) (hc:=λ w hs=>fJ hg (n:={Nd.zero with kind:=8,bL:=o,exp:=ex,new:=n}) (xs:=[]) (ys:=[]) 0 _ rfl rfl (by decide) (Nat.zero_le _) (Wt ho he hn) (bE _) go ok hs)) (λ x18 h18=>?_);refine gK ?_;refine J2 ?_;refine J3 ?_;refine nB ?_;refine aC (cM (hs:=xH k bx bm x18.2.1 dn rs) (os:=xW x18.2.1) (hc:=λ w hs=>sV hg t.root o x18.1 _ ht h18.bd h18.go h18.ok hs)) (λ x24 h24=>?_);refine lX ?_
 refine aZ (λ c25=>?_) (λ c25=>?_)
 ·refine cN ?_
  refine aN Tryz.results85 (λ w hw=>?_)
  obtain⟨N,hN,hf⟩:=(Ch.base (F:=[])).nx h18 |>.se h24 |>.to h24 (h24.go.to (λ _=>if_neg (by simpa using c25))) (by have:=h18.lc;have:=h24.lc;omega) (bE _)
  exact⟨(false,x24.2,N),rfl,hN,(hw.eG hf).z7⟩
 ·have g1:=h24.go.to (λ _=>if_pos (by simpa using c25))
  have hl24:=h24.len
  have hb18:=h18.bd
  refine bA ?_;refine Ka9 ?_;refine aB ?_;refine aC (cM (hs:=xH k bx bm x24.2 dn rs) (os:=xW x24.2) (hc:=λ w hs=>Lj hg t x18.1 _ ht (by omega) g1 h24.ok hs)) (λ x29 h29=>?_);refine aI ?_;refine iF ?_;refine aB ?_;refine aC (cM (hs:=xH k bx bm x29.1 dn rs) (os:=xW x29.1) (hc:=λ w hs=>cB x18.1 _ (by have:=h29.len;omega) h29.go h29.ok hs)) (λ x33 h33=>?_);refine cE ?_;refine aC (cM (hs:=xH k bx bm x29.1 dn rs) (os:=xW x29.1) (hc:=λ w hs=>nM hg (aA x29.1.L x18.1).nd.status _ (h33.2.i64 h29.ok.lL h29.ok.lc).2.2.2.2.2 h33.1 h29.ok hs)) (λ x35 h35=>?_);refine gK ?_;refine eD [(0,[]),(1,[]),(2,[]),(3,[]),(4,[]),(5,[]),(6,[]),(7,[2]),(8,[])] ?_;refine aT ?_;refine lR ?_;refine gM ?_;refine gM ?_;refine bS (i:=7) (hq:=(cM (hs:=xH k bx bm x35.2 dn rs) (os:=xW x35.2) (hc:=λ w hs=>Ec x18.1 x35.1 _ (by have:=h29.len;have:=h35.len;omega) h35.go h35.ok hs))) (h:=λ x43 h43=>?_);refine bS (i:=8) (hq:=(cM (hs:=xH k bx bm x35.2 dn rs) (os:=xW x35.2) (hc:=λ w hs=>sV hg t.root x18.1 x43 _ ht h43.2 h43.1 h35.ok hs))) (h:=λ x44 h44=>?_);refine dV ?_;refine mV ?_;refine El ?_
  (refine eR 50 (λ g50=>?_) (λ g50=>?_)<;>refine Ka1 ?_)
  all_goals (refine wQ ?_;refine J1 ?_)
  all_goals
  refine aN Tryz.results85 (λ w hw=>?_)
  first
   | (obtain⟨N,hN,hf⟩:=(Ch.nx h29 ((Ch.base (F:=[])).nx h18 |>.se h24)) |>.se h35 |>.se h44 |>.to h44 h44.go (by have:=h18.lc;have:=h24.lc;have:=h29.lc;have:=h35.lc;have:=h44.lc;omega) (bE _);exact⟨(x35.1==1,x44.2,N),rfl,hN,(hw.eG hf).z7⟩)
   | (obtain⟨N,hN,hf⟩:=(Ch.nx h29 ((Ch.base (F:=[])).nx h18 |>.se h24)) |>.se h35 |>.se h44 |>.to (t':=K false) h44 (h44.go.bO (by assumption)) (by have:=h18.lc;have:=h24.lc;have:=h29.lc;have:=h35.lc;have:=h44.lc;omega) (bE _);exact⟨(false,x44.2,N),rfl,hN,(hw.eG hf).z7⟩)
theorem yS(hg:g.Ok)(c index r:Int)(K:Int->Tr)(hc:c<=x.L.length)(hr:r<=x.L.length)(hA:∀f∈aY x.L,f∈A)(go:eU g x (Cq c index r K))(ok:x.Ok)(hs:SF w D (xH k bx bm x dn rs) A [] (xW x) w):Calls Tryz.prog 116 #[.pointer (some ⟨bx,0,none⟩),.int .i64 c,.int .i64 index,.int .i64 r] w λ e w'=>∃q:Int×XS×List aK,e=.returned (.int .i64 q.1)/\Nx g x q.2.1 q.2.2 (K q.1) q.1/\SF w D (xH k bx bm q.2.1 dn rs) [] (aY q.2.2) (xW q.2.1) w':=by
 refine enter Tryz.func116 Tryz.ntmps116 rfl rfl (cA hs) ?_
 simp only[cR]
 refine cN ?_;refine iF ?_;refine aC (cM (hs:=xH k bx bm x dn rs) (os:=xW x) (hc:=λ w hs=>cB c _ hc go ok hs)) (λ x14 h14=>?_);refine nB ?_;refine aC (cF (hc:=λ w1 hw=>lh (v:=aA x.L c) (ok.nv c) index r (ok.pU hw hA c))) (λ x17 h17=>?_);refine Cj ?_;refine aP (λ x9=>?_);refine A1 ?_;refine Ka9 ?_;refine aB ?_;refine aC (cM (hs:=xH k bx bm x dn rs) (os:=xW x) (A0:=[((kW (Me (aA x.L c) index r) x17).brA,aG (kE (Me (aA x.L c) index r))),((kW (Me (aA x.L c) index r) x17).prA,cZ [])]) (hA:=Od) (hc:=λ w hs=>fJ hg (n:=kW (Me (aA x.L c) index r) x17) (xs:=kE (Me (aA x.L c) index r)) (ys:=[]) c _ (Be _ _) (Bn _ _) (X5 (ok.nv c) hr index).len (Nat.zero_le _) ((X5 (ok.nv c) hr index).ym _) hc (by rw[<- vw (ok.nv c)];exact h14.1) ok hs)) (λ x23 h23=>?_);refine J1 ?_
 refine aN Tryz.results116 (λ w hw=>?_)
 exact⟨x23,rfl,h23,hw.aU (hF:=by exact aX.pD λ f hf=>List.mem_append_left _ hf)⟩
end
end

end Go.Proofs.YtadnboagdhcedaaGreatDoor
