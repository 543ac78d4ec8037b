/- Executions of the reference: RDCSS, RENEW; functions that read lists of nodes. -/
import Derived.Test.YtpobgmdalcpomaaGreatGEx7

set_option linter.unusedSimpArgs false
set_option linter.unusedVariables false
namespace Go.Ct
section
open Go Go.RowKit
theorem Ch.to{g:Gx}{x0 x X:XS}{F:Fr}{N:List aQ}{t t':Tr}{b b':Int}(h:Ch x0 X F)(h2:Nx g x X N t b)(go:gC g X t')(hc:x0.cs.length<=X.cs.length)(hb:b'<=X.L.length):∃N,Nx g x0 X N t' b'/\∀f∈bG N,f.2=[]∨f∈F:=by
 obtain⟨N,h3,h4⟩:=h
 exact⟨N,⟨go,h2.ok,h3,hc,hb⟩,h4⟩
theorem XS.Ok.rJ{w0 w:World}{M:List Nat}{H:List (Nat×Obj)}{A F:Fr}{O:List Ow}{x:XS}(ok:x.Ok)(h:SF w0 M H A F O w)(hA:∀f∈bG x.L,f∈A)(r:Int):pQ w (aD x.L r).nd (aD x.L r).xs (aD x.L r).ys:=h.Xv (Ch.base (F:=F)) hA ok r
end
end Go.Ct
namespace Go.Proofs.YtpobgmdalcpomaaGreat
section
open Go Go.RowKit Go.Ct
structure uV(n:Nat)(o:Option (Nat×List Int)):Prop where
 out:∀q,o=some q->q.1<18446744073709551616/\q.2.length<=64/\∀r∈q.2,r<=n
theorem Xx{b:Nat}{xs:List Int}(h:BV b xs):xs.length<=64:=by rw[h.len];exact xY b 64
theorem dq{xs:List Int}{p:Nat}{r v:Int}(h:v∈xZ xs p r):v∈xs∨v=r:=by
 unfold xZ at h
 rcases List.mem_append.1 h with h|h
 ·exact .inl (List.mem_of_mem_take h)
 ·rcases List.mem_cons.1 h with h|h
  ·exact .inr h
  ·exact .inl (List.mem_of_mem_drop h)
theorem gf{xs:List Int}{p:Nat}{r v:Int}(h:v∈vE xs p r):v∈xs∨v=r:=by
 unfold vE at h
 rcases List.mem_append.1 h with h|h
 ·exact .inl (List.mem_of_mem_take h)
 ·rcases List.mem_cons.1 h with h|h
  ·exact .inr h
  ·exact .inl (List.mem_of_mem_drop h)
theorem iy{xs:List Int}{p:Nat}{v:Int}(h:v∈rG xs p):v∈xs:=by
 unfold rG at h
 rcases List.mem_append.1 h with h|h
 ·exact List.mem_of_mem_take h
 ·exact List.mem_of_mem_drop h
section
variable{n:Nd}{xs:List Int}{ys:List Pr}{b m:Nat}
theorem fx(hb:n.bm=(b:Int))(hb2:b<18446744073709551616)(hx:∀r∈xs,r<=m){r:Int}(hr:r<=m)(i:Int):uV m (cr n xs ys b i r):=⟨λ q hq=>by
 unfold cr at hq
 split at hq
 ·rename_i h
  cases hq
  obtain⟨h1,h2,h3⟩:=h
  have hv:=h1.bv hb hb2
  obtain⟨e1,e2,e3,e4⟩:=rI h3
  have:=(O9 hv (i:=i.toNat) (by omega) e3 h2).1
  rw[<- e4] at this
  exact⟨this.lt,Xx this,λ v hv=>(dq hv).elim (hx v) (λ e=>e▸hr)⟩
 ·cases hq⟩
theorem j5(hb:n.bm=(b:Int))(hb2:b<18446744073709551616)(hx:∀r∈xs,r<=m){r:Int}(hr:r<=m)(i:Int):uV m (cm n xs ys b i r):=⟨λ q hq=>by
 unfold cm at hq
 split at hq
 ·rename_i h
  cases hq
  obtain⟨h1,h0,h2,h3⟩:=h
  have hv:=h1.bv hb hb2
  have e:i=((i.toNat:Nat):Int):=by omega
  have hk:i.toNat<64:=by omega
  rw[e] at h3 ⊢
  rw[oX b hk] at h3
  have:=(D3 hv (i:=i.toNat) hk h3 h2).1
  rw[oS b hk,nF b hk]
  exact⟨this.lt,Xx this,λ v hv=>(gf hv).elim (hx v) (λ e=>e▸hr)⟩
 ·cases hq⟩
theorem iu(hb:n.bm=(b:Int))(hb2:b<18446744073709551616)(hx:∀r∈xs,r<=m)(i:Int):uV m (cf n xs ys b i):=⟨λ q hq=>by
 unfold cf at hq
 split at hq
 ·rename_i h
  cases hq
  obtain⟨h1,h3⟩:=h
  have hv:=h1.bv hb hb2
  obtain⟨e1,e2,e3,e4⟩:=rI h3
  have hk:i.toNat<64:=by omega
  have:=(Pj hv (i:=i.toNat) hk e3).1
  have e:i=((i.toNat:Nat):Int):=by omega
  rw[e,rP b hk,nF b hk]
  exact⟨this.lt,Xx this,λ v hv=>hx v (iy hv)⟩
 ·cases hq⟩
end
theorem uV.zn{m c:Nat}{o:Option (Nat×List Int)}(h:uV m o)(x:Option Addr×Nat):oM m c {(mF o x).c (lU o) [] with main:=0,prev:=0,status:=0}:=by
 rw[D7]
 cases o with
 | none=>exact⟨bS _,bS _,bS _,(λ r hr=>nomatch hr),bS _,bS _,bS _,⟨0,rfl,by decide⟩,⟨0,rfl,by decide⟩⟩
 | some q =>
  have h1:=h.out q rfl
  exact⟨bS _,bS _,bS _,h1.2.2,bS _,bS _,bS _,⟨q.1,rfl,h1.1⟩,⟨0,rfl,by decide⟩⟩
theorem uV.len{m:Nat}{o:Option (Nat×List Int)}(h:uV m o):(lU o).length<=274877906944:=by
 cases o with
 | none=>exact Nat.zero_le _
 | some q=>exact Nat.le_trans (h.out q rfl).2.1 (by decide)
theorem De(o:Option (Nat×List Int))(x:Option Addr×Nat):(mF o x).brN=(lU o).length:=by cases o<;>rfl
theorem C8(o:Option (Nat×List Int))(x:Option Addr×Nat):(mF o x).prN=([]:List Pr).length:=by cases o<;>rfl
theorem O3{A F:Fr}{O:List Ow}{o:Option (Nat×List Int)}{x:Option Addr×Nat}:dA A ((x.1,aJ (lU o))::F) O [((mF o x).brA,aJ (lU o)),((mF o x).prA,dI [])]:=by
 cases o with
 | none=>exact .cons (.inl rfl) (.cons (.inl rfl) .nil)
 | some q=>exact .cons (.inr (.inr (.inl (.head _)))) (.cons (.inl rfl) .nil)
section
variable{v:aQ}{n c:Nat}{w:World}
theorem fJ(h:oM n c v.c):v.nd.bm=((v.c.bm.toNat:Nat):Int)/\v.c.bm.toNat<18446744073709551616:=by
 obtain⟨b,h1,h2⟩:=h.bm
 have h3:v.nd.bm=(b:Int):=h1
 have h4:v.c.bm=(b:Int):=h1
 rw[h3,h4]
 exact⟨by simp,by simpa using h2⟩
theorem Ih(h:oM n c v.c)(i:Int)(hr:pQ w v.nd v.xs v.ys):Calls Tryz.prog 110 #[v.nd.v,.int .i64 i] w λ e w'=>e=.returned (.tuple #[.int .i64 ((mB v.c i).getD 0),.bool (mB v.c i).isSome])/\St w [] [] w':=by
 have h1:=fJ h
 have:=nI (n:=v.nd) i h1.1 h1.2 hr
 rw[wu h1.1 i] at this
 exact this
theorem pB(h:oM n c v.c)(i:Int):(mB v.c i).getD 0<=n:=by
 have h1:=fJ h
 have e:=wu (xs:=v.xs) (ys:=v.ys) h1.1 i
 rw[show mB v.c i=mB (v.nd.c v.xs v.ys) i from rfl,<- e]
 unfold Kk
 split
 ·exact mX h.br _
 ·exact bS _
noncomputable abbrev Oy (v:aQ) (i r:Int):Option (Nat×List Int):=cr v.nd v.xs v.ys v.c.bm.toNat i r
noncomputable abbrev Wi (v:aQ) (i r:Int):Option (Nat×List Int):=cm v.nd v.xs v.ys v.c.bm.toNat i r
noncomputable abbrev Ws (v:aQ) (i:Int):Option (Nat×List Int):=cf v.nd v.xs v.ys v.c.bm.toNat i
theorem uw(h:oM n c v.c)(i r:Int)(x:Option Addr×Nat):Y7 v.c i r=(mF (Oy v i r) x).c (lU (Oy v i r)) []:=by
 rw[D7]
 exact(xb (fJ h).1 i r).symm
theorem u9(h:oM n c v.c)(i r:Int)(x:Option Addr×Nat):oc v.c i r=(mF (Wi v i r) x).c (lU (Wi v i r)) []:=by
 rw[D7]
 exact(zp (fJ h).1 i r).symm
theorem k9(h:oM n c v.c)(i:Int)(x:Option Addr×Nat):Lk v.c i=(mF (Ws v i) x).c (lU (Ws v i)) []:=by
 rw[D7]
 exact(uo (fJ h).1 i).symm
theorem nl(h:oM n c v.c)(i r:Int)(hr:pQ w v.nd v.xs v.ys):Calls Tryz.prog 113 #[v.nd.v,.int .i64 i,.int .i64 r] w (Vk w (Oy v i r)):=Iy (n:=v.nd) i r (fJ h).1 (fJ h).2 hr
theorem Xa(h:oM n c v.c)(i r:Int)(hr:pQ w v.nd v.xs v.ys):Calls Tryz.prog 140 #[v.nd.v,.int .i64 i,.int .i64 r] w (Vk w (Wi v i r)):=G3 (n:=v.nd) i r (fJ h).1 (fJ h).2 hr
theorem uj(h:oM n c v.c)(i:Int)(hr:pQ w v.nd v.xs v.ys):Calls Tryz.prog 143 #[v.nd.v,.int .i64 i] w (Vk w (Ws v i)):=K2 (n:=v.nd) i (fJ h).1 (fJ h).2 hr
theorem Xz(h:oM n c v.c){r:Int}(hr:r<=n)(i:Int):uV n (Oy v i r):=fx (fJ h).1 (fJ h).2 h.br hr i
theorem xa(h:oM n c v.c){r:Int}(hr:r<=n)(i:Int):uV n (Wi v i r):=j5 (fJ h).1 (fJ h).2 h.br hr i
theorem u5(h:oM n c v.c)(i:Int):uV n (Ws v i):=iu (fJ h).1 (fJ h).2 h.br i
end
theorem qW{n c:Nat}{g:Int}:oM n c {(({Nd.zero with kind:=2,gen:=g}:Nd).c [] []) with main:=0,prev:=0,status:=0}:=⟨bS _,bS _,bS _,(λ r hr=>nomatch hr),bS _,bS _,bS _,⟨0,rfl,by decide⟩,⟨0,rfl,by decide⟩⟩
section
variable{k:Cl}{bx bm:Nat}{x:XS}{dn:Bool}{rs:Rs}{D:List Nat}{A:Fr}{w:World}{g:Gx}
theorem K4(hg:g.Ok)(t:iV)(o ex n:Int)(K:Bool->Tr)(ht:t.root<=9223372036854775807)(ho:o<=x.L.length)(he:ex<=x.L.length)(hn:n<=x.L.length)(go:gC g x (A9 t o ex n K))(ok:x.Ok)(hs:SF w D (xH k bx bm x dn rs) A [] (xW x) w):Calls Tryz.prog 80 #[.pointer (some ⟨bx,0,none⟩),Lf t,.int .i64 o,.int .i64 ex,.int .i64 n] w λ e w'=>∃q:Bool×XS×List aQ,e=.returned (.bool q.1)/\Nx g x q.2.1 q.2.2 (K q.1) 0/\SF w D (xH k bx bm q.2.1 dn rs) [] (bG q.2.2) (xW q.2.1) w':=by
 refine enter Tryz.func80 Tryz.ntmps80 rfl rfl (cN hs) ?_
 simp only[dB]
 simp only[Lf]
 all_goals (refine J0 ?_;refine bM (λ x6=>?_);refine yQ ?_;refine oI ?_;refine bV ?_;(refine aF (cM (hs:=xH k bx bm x dn rs) (os:=xW x) (A0:=[(none,aJ []),(none,dI [])]) (hc:=λ w hs=>gT hg (n:={Nd.zero with kind:=8,cE:=o,exp:=ex,new:=n}) (xs:=[]) (ys:=[]) 0 _ rfl rfl (by decide) (Nat.zero_le _) (Yr ho he hn) (bS _) go ok hs)) (λ x18=>?_);try (refine aB (λ h18=>?_)));refine iI ?_;refine J2 ?_;refine J3 ?_;refine oI ?_;(refine aF (cM (hs:=xH k bx bm x18.2.1 dn rs) (os:=xW x18.2.1) (hc:=λ w hs=>qR hg t.root o x18.1 _ ht h18.bd h18.go h18.ok hs)) (λ x24=>?_);try (refine aB (λ h24=>?_)));refine kD ?_)
 all_goals
 refine bF (λ c25=>?_) (λ c25=>?_)
 ·try exact nv c25
  all_goals refine dH ?_
  all_goals
   refine aR Tryz.results80 (λ w hw=>?_)
   obtain⟨N,hN,hf⟩:=(Ch.base (F:=[])).nx h18 |>.qg h24 |>.to h24 (h24.go.to (λ _=>if_neg (by simpa using c25))) (by have:=h18.lc;have:=h24.lc;omega) (bS _)
   exact⟨(false,x24.2,N),rfl,hN,(hw.dO hf).aV (hF:=by exact aW.all)⟩
 ·try exact nv c25
  all_goals
   have g1:=h24.go.to (λ _=>if_pos (by simpa using c25))
   have hl24:=h24.len
   have hb18:=h18.bd
  all_goals (refine aZ ?_;refine J2 ?_;refine bJ ?_;refine aA ?_;(refine aF (cM (hs:=xH k bx bm x24.2 dn rs) (os:=xW x24.2) (hc:=λ w hs=>N4 hg t x18.1 _ ht (by omega) g1 h24.ok hs)) (λ x29=>?_);try (refine aB (λ h29=>?_)));refine aN ?_;refine jE ?_;refine aA ?_;(refine aF (cM (hs:=xH k bx bm x29.1 dn rs) (os:=xW x29.1) (hc:=λ w hs=>cY x18.1 _ (by have:=h29.len;omega) h29.go h29.ok hs)) (λ x33=>?_);try (refine aB (λ h33=>?_)));refine cP ?_;(refine aF (cM (hs:=xH k bx bm x29.1 dn rs) (os:=xW x29.1) (hc:=λ w hs=>pD hg (aD x29.1.L x18.1).nd.status _ (h33.2.i64 h29.ok.lL h29.ok.lc).2.2.2.2.2 h33.1 h29.ok hs)) (λ x35=>?_);try (refine aB (λ h35=>?_)));refine iI ?_;refine dL [(0,[]),(1,[]),(2,[]),(3,[]),(4,[]),(5,[]),(6,[]),(7,[2]),(8,[])] ?_;refine aL ?_;refine jP ?_;refine gD ?_;refine gD ?_;((refine bA (i:=7) (hq:=(cM (hs:=xH k bx bm x35.2 dn rs) (os:=xW x35.2) (hc:=λ w hs=>Fi x18.1 x35.1 _ (by have:=h29.len;have:=h35.len;omega) h35.go h35.ok hs))) (h:=λ x43=>?_);try (refine aK (λ h43=>?_))));((refine bA (i:=8) (hq:=(cM (hs:=xH k bx bm x35.2 dn rs) (os:=xW x35.2) (hc:=λ w hs=>qR hg t.root x18.1 x43 _ ht h43.2 h43.1 h35.ok hs))) (h:=λ x44=>?_);try (refine aK (λ h44=>?_))));refine eO ?_;refine kZ ?_;refine As ?_)
  all_goals (first|refine aG ?_|(refine aC ?_;refine aA ?_)|(refine dG 50 (λ g50=>?_) (λ g50=>?_)<;>(first|refine aG ?_|(refine aC ?_;refine aA ?_))))
  all_goals (refine rM ?_;refine J1 ?_)
  all_goals
   refine aR Tryz.results80 (λ w hw=>?_)
   first
   | (obtain⟨N,hN,hf⟩:=(Ch.nx h29 ((Ch.base (F:=[])).nx h18 |>.qg h24)) |>.qg h35 |>.qg h44 |>.to h44 h44.go (by have:=h18.lc;have:=h24.lc;have:=h29.lc;have:=h35.lc;have:=h44.lc;omega) (bS _);exact⟨(x35.1==1,x44.2,N),rfl,hN,(hw.dO hf).aV (hF:=by exact aW.all)⟩)
   | (obtain⟨N,hN,hf⟩:=(Ch.nx h29 ((Ch.base (F:=[])).nx h18 |>.qg h24)) |>.qg h35 |>.qg h44 |>.to (t':=K false) h44 (h44.go.cA (by first|assumption|simp_all)) (by have:=h18.lc;have:=h24.lc;have:=h29.lc;have:=h35.lc;have:=h44.lc;omega) (bS _);exact⟨(false,x44.2,N),rfl,hN,(hw.dO hf).aV (hF:=by exact aW.all)⟩)
theorem Ao(hg:g.Ok)(c index r:Int)(K:Int->Tr)(hc:c<=x.L.length)(hr:r<=x.L.length)(hA:∀f∈bG x.L,f∈A)(go:gC g x (Dr c index r K))(ok:x.Ok)(hs:SF w D (xH k bx bm x dn rs) A [] (xW x) w):Calls Tryz.prog 111 #[.pointer (some ⟨bx,0,none⟩),.int .i64 c,.int .i64 index,.int .i64 r] w λ e w'=>∃q:Int×XS×List aQ,e=.returned (.int .i64 q.1)/\Nx g x q.2.1 q.2.2 (K q.1) q.1/\SF w D (xH k bx bm q.2.1 dn rs) [] (bG q.2.2) (xW q.2.1) w':=by
 refine enter Tryz.func111 Tryz.ntmps111 rfl rfl (cN hs) ?_
 simp only[dB]
 all_goals (refine dH ?_;refine jE ?_;(refine aF (cM (hs:=xH k bx bm x dn rs) (os:=xW x) (hc:=λ w hs=>cY c _ hc go ok hs)) (λ x14=>?_);try (refine aB (λ h14=>?_)));refine oI ?_;(refine aF (cF (hc:=λ w1 hw=>nl (v:=aD x.L c) (ok.nv c) index r (ok.rJ hw hA c))) (λ x17=>?_);try (refine aB (λ h17=>?_)));refine pZ ?_;refine aY (λ x9=>?_);refine Cw ?_;refine J2 ?_;refine bJ ?_;refine aA ?_;(refine aF (cM (hs:=xH k bx bm x dn rs) (os:=xW x) (A0:=[((mF (Oy (aD x.L c) index r) x17).brA,aJ (lU (Oy (aD x.L c) index r))),((mF (Oy (aD x.L c) index r) x17).prA,dI [])]) (hA:=O3) (hc:=λ w hs=>gT hg (n:=mF (Oy (aD x.L c) index r) x17) (xs:=lU (Oy (aD x.L c) index r)) (ys:=[]) c _ (De _ _) (C8 _ _) (Xz (ok.nv c) hr index).len (Nat.zero_le _) ((Xz (ok.nv c) hr index).zn _) hc (by rw[<- uw (ok.nv c)];exact h14.1) ok hs)) (λ x23=>?_);try (refine aB (λ h23=>?_)));refine J1 ?_)
 all_goals
 refine aR Tryz.results111 (λ w hw=>?_)
 exact⟨x23,rfl,h23,hw.aV (hF:=by exact aW.jM λ f hf=>List.mem_append_left _ hf)⟩
end
end

/- Executions of the reference: RENEW, CLEAN. -/
section
open Go Go.RowKit Go.Ct
theorem fN{h:Nat}(hh:h<18446744073709551616)(level:Int)(w:World):Calls Tryz.prog 35 #[.int .u64 (h:Int),.int .i64 level] w λ e w'=>e=.returned (.int .i64 (gZ h level))/\St w [] [] w':=by
 by_cases hl:level<0∨10<level
 ·unfold gZ
  rw[if_pos hl]
  refine enter Tryz.func35 Tryz.ntmps35 rfl rfl (SF.s0 w) ?_
  simp only[dB]
  all_goals (refine dH ?_;refine jS ?_;refine Am ?_)
  all_goals (first|refine aG ?_|(refine aC ?_;refine aA ?_)|(refine dG 7 (λ g7=>?_) (λ g7=>?_)<;>(try (exfalso;omega))<;>(first|refine aG ?_|(refine aC ?_;refine aA ?_))))
  all_goals (refine xV ?_;refine aN ?_)
  all_goals
  refine bF (λ c10=>?_) (λ c10=>?_)
  ·try exact nv c10
   all_goals try (exfalso;omega)
   all_goals refine dH ?_
   all_goals
    refine aR Tryz.results35 (λ w hw=>?_)
    exact⟨rfl,hw.done⟩
  ·try exact nv c10
   all_goals try (exfalso;omega)
   all_goals refine oD ?_
   all_goals
    refine gE [0,1,11,12,13,14,15,16] (λ y:Nat=>[]) (λ y=>False) (λ y=>y) (0) (by omega) ?_ (λ y f hx=>?_)
    ·repeat (first|exact bI _|refine bE (by first|exact rfl|(conv=>{lhs;whnf};simp;done)) ?_)
    dsimp only[gW,List.map,List.cons_append,List.nil_append]
    all_goals (refine jS ?_;refine xG ?_;refine aN ?_)
    all_goals
    refine bF (λ c12=>?_) (λ c12=>?_)
    ·try exact nv c12
     all_goals try (exfalso;omega)
     all_goals (refine oD ?_;refine xU ?_;refine aH (NO_RULE_binOp) rfl ?_;refine J1 ?_;refine eV ?_;refine xU ?_;refine kN ?_;refine J1 ?_)
     all_goals
      refine fD (y+1) ?_ ?_ ?_
      ·first|omega|(simp only[];omega)
      ·repeat' (first|exact bI _|refine bE ?_ ?_)
       all_goals (first|exact rfl|(conv=>{lhs;whnf};simp;done)|(conv=>{lhs;whnf};congr 1;omega))
      ·exact hx.elim
    ·try exact nv c12
     all_goals try (exfalso;omega)
     all_goals (refine bQ rfl ?_;refine J2 ?_;refine mz ?_;refine lI ?_;refine J1 ?_)
     all_goals
      refine aR Tryz.results35 (λ w hw=>?_)
      exact hx.elim
 ·unfold gZ
  rw[if_neg hl]
  exact Ci (l:=level.toNat) (by omega) hh (by omega) w
section
variable{m c:Nat}{o:Option (Nat×List Int)}{w:World}
noncomputable abbrev zx (o:Option (Nat×List Int)) (x:Option Addr×Nat) (level:Int) (s:Nd):Bool:=Qy (mF o x) (lU o) [] level s
noncomputable abbrev Oj (o:Option (Nat×List Int)) (x:Option Addr×Nat) (level:Int) (s:Nd):Nd:=ld (zx o x level s) (mF o x) s
noncomputable abbrev V2 (o:Option (Nat×List Int)) (x:Option Addr×Nat) (level:Int) (s:Nd):List Int:=b9 (zx o x level s) (lU o)
theorem ja{α:Type}(t:Bool):b9 t ([]:List α)=[]:=by unfold b9;split<;>rfl
theorem Lm(h:uV m o)(x:Option Addr×Nat):∃b:Nat,(mF o x).bm=(b:Int)/\b<18446744073709551616:=by
 cases o with
 | none=>exact⟨0,rfl,by decide⟩
 | some q=>exact⟨q.1,rfl,(h.out q rfl).1⟩
theorem N8(h:uV m o){x:Option Addr×Nat}(hc:Go.Ct.Cl w x.1 (aJ (lU o))):pQ w (mF o x) (lU o) []:=by
 refine⟨De _ _,C8 _ _,?_,?_,by have:=h.len;omega,by decide⟩
 ·cases o with
  | none=>exact Cl.nil _ _
  | some q=>exact hc
 ·exact Cl.nil _ _
theorem R7(h:uV m o){x:Option Addr×Nat}(level:Int)(s:Nd)(hc:Go.Ct.Cl w x.1 (aJ (lU o))):Calls Tryz.prog 114 #[(mF o x).v,.int .i64 level,s.v] w λ e w'=>e=.returned (Oj o x level s).v/\St w [] [] w':=by
 obtain⟨b,h1,h2⟩:=Lm h x
 exact Cs (n:=mF o x) level s h1 h2 (N8 h hc)
theorem mn(x:Option Addr×Nat)(level:Int)(s:Nd):sg (Gl o) level (s.c [] [])=(Oj o x level s).c (V2 o x level s) []:=by
 have:=(yq (n:=mF o x) (s:=s) (xs:=lU o) (ys:=[]) level).symm
 rw[D7,ja] at this
 exact this
theorem Zg(x:Option Addr×Nat)(level:Int)(s:Nd):(Oj o x level s).brN=(V2 o x level s).length:=by
 unfold Oj ld V2 b9
 split
 ·rfl
 ·exact De _ _
theorem Z8(x:Option Addr×Nat)(level:Int)(s:Nd):(Oj o x level s).prN=([]:List Pr).length:=by
 unfold Oj ld
 split
 ·rfl
 ·exact C8 _ _
theorem Sa(h:uV m o)(x:Option Addr×Nat)(level:Int)(s:Nd):(V2 o x level s).length<=274877906944:=by
 unfold V2 b9
 split
 ·exact Nat.zero_le _
 ·exact h.len
theorem Rw(h:uV m o)(x:Option Addr×Nat)(level:Int){s:Nd}(hh:∃b:Nat,s.hash=(b:Int)/\b<18446744073709551616):oM m c {(Oj o x level s).c (V2 o x level s) [] with main:=0,prev:=0,status:=0}:=by
 unfold Oj ld V2 b9
 split
 ·exact⟨bS _,bS _,bS _,(λ r hr=>nomatch hr),bS _,bS _,bS _,⟨0,rfl,by decide⟩,hh⟩
 ·exact h.zn x
theorem kz{A F:Fr}{O:List Ow}{x:Option Addr×Nat}{level:Int}{s:Nd}:dA A ((x.1,aJ (lU o))::F) O [((Oj o x level s).brA,aJ (V2 o x level s)),((Oj o x level s).prA,dI [])]:=by
 unfold Oj ld V2 b9
 split
 ·exact .cons (.inl rfl) (.cons (.inl rfl) .nil)
 ·exact O3
end
theorem X3(n:Nd):(Fp n).brN=([]:List Int).length/\(Fp n).prN=([]:List Pr).length:=by unfold Fp;split<;>exact⟨rfl,rfl⟩
theorem Mv{n:Nd}(h:∃b:Nat,n.hash=(b:Int)/\b<18446744073709551616):∃b:Nat,(Fp n).hash=(b:Int)/\b<18446744073709551616:=by
 unfold Fp
 split
 ·exact h
 ·exact⟨0,rfl,by decide⟩
theorem ow{n:Nd}{m c:Nat}(h:∃b:Nat,n.hash=(b:Int)/\b<18446744073709551616):oM m c {(Fp n).c [] [] with main:=0,prev:=0,status:=0}:=by
 have h2:=Mv h
 revert h2
 unfold Fp
 split<;>exact λ h2=>⟨bS _,bS _,bS _,(λ r hr=>nomatch hr),bS _,bS _,bS _,⟨0,rfl,by decide⟩,h2⟩
theorem xo{v:aQ}{n c:Nat}(h:oM n c v.c){i r:Int}:Y7 v.c i r=Gl (Oy v i r):=(xb (fJ h).1 i r).symm
theorem wz{v:aQ}{n c:Nat}(h:oM n c v.c){i:Int}:Lk v.c i=Gl (Ws v i):=(uo (fJ h).1 i).symm
theorem qj{o:Option Int}{c:Int}(h1:o.isSome=true)(h2:o.getD 0=c):o=some c:=by
 cases o with
 | none=>cases h1
 | some v=>exact congrArg some h2
theorem ir{o:Option Int}{c:Int}(h1:o.isSome=false):¬o=some c:=λ h=>by rw[h] at h1;cases h1
theorem iv{o:Option Int}{c:Int}(h1:o.getD 0≠c):¬o=some c:=λ h=>by rw[h] at h1;exact h1 rfl
section
variable{k:Cl}{bx bm:Nat}{x:XS}{dn:Bool}{rs:Rs}{D:List Nat}{A:Fr}{w:World}{g:Gx}
theorem dy(hg:g.Ok)(t:iV)(i c index:Int)(K:Int->Tr)(ht:t.root<=9223372036854775807)(hi:i<=x.L.length)(hc:c<=x.L.length)(hA:∀f∈bG x.L,f∈A)(go:gC g x (Jw t i c index K))(ok:x.Ok)(hs:SF w D (xH k bx bm x dn rs) A [] (xW x) w):Calls Tryz.prog 81 #[.pointer (some ⟨bx,0,none⟩),Lf t,.int .i64 i,.int .i64 c,.int .i64 index] w λ e w'=>∃q:Int×XS×List aQ,e=.returned (.int .i64 q.1)/\Nx g x q.2.1 q.2.2 (K q.1) q.1/\SF w D (xH k bx bm q.2.1 dn rs) [] (bG q.2.2) (xW q.2.1) w':=by
  refine enter Tryz.func81 Tryz.ntmps81 rfl rfl (cN hs) ?_
  simp only[dB]
  simp only[Lf]
  all_goals (refine J0 ?_;refine bM (λ x6=>?_);refine yQ ?_;(refine aF (cM (hs:=xH k bx bm x dn rs) (os:=xW x) (hc:=λ w hs=>cY c _ hc go ok hs)) (λ x18=>?_);try (refine aB (λ h18=>?_)));refine aA ?_;(refine aF (cV (hc:=λ w1 hw=>Ih (v:=aD x.L c) (ok.nv c) index (ok.rJ hw hA c))) (λ x20=>?_);try (refine aB (λ h20=>?_)));refine aA ?_;refine aH (bX rf rfl) rfl ?_;refine aH (bX rf rfl) rfl ?_;refine J8 ?_;refine J2 ?_;refine bJ ?_;refine aA ?_;(refine aF (cM (hs:=xH k bx bm x dn rs) (os:=xW x) (hc:=λ w hs=>nT hg t ((mB (aD x.L c).c index).getD 0) _ ht (pB (ok.nv c) index) h18.1 ok hs)) (λ x26=>?_);try (refine aB (λ h26=>?_)));refine yQ ?_;refine aA ?_;(refine aF (cM (hs:=xH k bx bm x26.2.1 dn rs) (os:=xW x26.2.1) (hc:=λ w hs=>cY i _ (by have:=h26.len;omega) h26.go h26.ok hs)) (λ x30=>?_);try (refine aB (λ h30=>?_)));refine cP ?_;refine bV ?_;refine aA ?_;(refine aF (cM (hs:=xH k bx bm x26.2.1 dn rs) (os:=xW x26.2.1) (A0:=[(none,aJ []),(none,dI [])]) (hc:=λ w hs=>gT hg (n:={Nd.zero with kind:=2,gen:=(aD x26.2.1.L i).nd.gen}) (xs:=[]) (ys:=[]) x26.1 _ rfl rfl (by decide) (Nat.zero_le _) qW h26.bd h30.1 h26.ok hs)) (λ x34=>?_);try (refine aB (λ h34=>?_))))
  all_goals
   have hch:=Ch.nx h34 ((Ch.base (F:=[])).nx h26)
  all_goals (refine iI ?_;refine aT ?_;refine dL [(0,[]),(1,[]),(2,[]),(3,[]),(4,[]),(5,[]),(6,[]),(7,[]),(8,[1]),(9,[])] ?_;refine aL ?_;refine bT ?_;refine gD ?_;refine gD ?_;refine gD ?_;((refine bA (i:=8) (hq:=(cM (hs:=xH k bx bm x34.2.1 dn rs) (os:=xW x34.2.1) (A0:=bG x34.2.1.L) (hA:=Ch.all hch hA) (hc:=λ w hs=>Ao hg c index x34.1 _ (by have:=h26.len;have:=h34.len;omega) h34.bd (λ f hf=>hf) h34.go h34.ok hs))) (h:=λ x43=>?_);try (refine aK (λ h43=>?_))));((refine bA (i:=9) (hq:=(cM (hs:=xH k bx bm x43.2.1 dn rs) (os:=xW x43.2.1) (hc:=λ w hs=>sY hg t i c x43.1 _ ht (by have:=h26.len;have:=h34.len;have:=h43.len;omega) h43.bd h43.go h43.ok hs))) (h:=λ x44=>?_);try (refine aK (λ h44=>?_)))))
  all_goals
   have hch2:=Ch.nx h44 (Ch.nx h43 hch)
   have hlc:x.cs.length<=x44.2.1.cs.length:=by have:=h26.lc;have:=h34.lc;have:=h43.lc;have:=h44.lc;omega
  all_goals refine eO ?_
  all_goals
   refine bF (λ c44=>?_) (λ c44=>?_)
   · try exact nv c44
     all_goals (refine J2 ?_;refine J1 ?_)
     all_goals
      refine aR Tryz.results81 (λ w hw=>?_)
      obtain⟨N,hN,hf⟩:=hch2.to h44 (h44.go.to (t':=K x34.1) (λ _=>by rw[if_pos (by assumption)])) hlc (show x34.1<=_ by have:=h34.bd;have:=h43.len;have:=h44.len;omega)
      exact⟨(x34.1,x44.2.1,N),rfl,hN,(hw.dO hf).aV (hF:=by exact aW.all)⟩
   · try exact nv c44
     all_goals (refine aZ ?_;refine dH ?_)
     all_goals
      refine aR Tryz.results81 (λ w hw=>?_)
      obtain⟨N,hN,hf⟩:=hch2.to h44 (h44.go.to (t':=K 0) (λ _=>by rw[if_neg (by simp only[Bool.not_eq_true];assumption)])) hlc (show(0:Int)<=_ from bS _)
      exact⟨(0,x44.2.1,N),rfl,hN,(hw.dO hf).aV (hF:=by exact aW.all)⟩
end
end

end Go.Proofs.YtpobgmdalcpomaaGreat
