/- Executions of the reference: RDCSS, RENEW; functions that read lists of nodes. -/
import Derived.Test.YtbajmaoegmbfgaaGreatGEx7

set_option linter.unusedSimpArgs false
set_option linter.unusedVariables false
namespace Go.Ct
section
open Go Go.RowKit
theorem Ch.to{g:Gx}{x0 x X:XS}{F:Fr}{N:List aX}{t t':Tr}{b b':Int}(h:Ch x0 X F)(h2:Nx g x X N t b)(go:gL g X t')(hc:x0.cs.length<=X.cs.length)(hb:b'<=X.L.length):∃N,Nx g x0 X N t' b'/\∀f∈aR N,f.2=[]∨f∈F:=by
 obtain⟨N,h3,h4⟩:=h
 exact⟨N,⟨go,h2.ok,h3,hc,hb⟩,h4⟩
theorem XS.Ok.sE{w0 w:World}{M:List Nat}{H:List (Nat×Obj)}{A F:Fr}{O:List Ow}{x:XS}(ok:x.Ok)(h:SF w0 M H A F O w)(hA:∀f∈aR x.L,f∈A)(r:Int):rK w (aD x.L r).nd (aD x.L r).xs (aD x.L r).ys:=h.Zp (Ch.base (F:=F)) hA ok r
end
end Go.Ct
namespace Go.Proofs.YtbajmaoegmbfgaaGreat
section
open Go Go.RowKit Go.Ct
structure vM(n:Nat)(o:Option (Nat×List Int)):Prop where
 out:∀q,o=some q->q.1<18446744073709551616/\q.2.length<=64/\∀r∈q.2,r<=n
theorem ft{b:Nat}{xs:List Int}(h:BV b xs):xs.length<=64:=by rw[h.len];exact E8 b 64
theorem mz{xs:List Int}{p:Nat}{r v:Int}(h:v∈zA xs p r):v∈xs∨v=r:=by
 unfold zA at h
 rcases List.mem_append.1 h with h|h
 ·exact .inl (List.mem_of_mem_take h)
 ·rcases List.mem_cons.1 h with h|h
  ·exact .inr h
  ·exact .inl (List.mem_of_mem_drop h)
theorem ll{xs:List Int}{p:Nat}{r v:Int}(h:v∈wC xs p r):v∈xs∨v=r:=by
 unfold wC at h
 rcases List.mem_append.1 h with h|h
 ·exact .inl (List.mem_of_mem_take h)
 ·rcases List.mem_cons.1 h with h|h
  ·exact .inr h
  ·exact .inl (List.mem_of_mem_drop h)
theorem ox{xs:List Int}{p:Nat}{v:Int}(h:v∈sD xs p):v∈xs:=by
 unfold sD at h
 rcases List.mem_append.1 h with h|h
 ·exact List.mem_of_mem_take h
 ·exact List.mem_of_mem_drop h
section
variable{n:Nd}{xs:List Int}{ys:List Pr}{b m:Nat}
theorem ob(hb:n.bm=(b:Int))(hb2:b<18446744073709551616)(hx:∀r∈xs,r<=m){r:Int}(hr:r<=m)(i:Int):vM m (iz n xs ys b i r):=⟨λ q hq=>by
 unfold iz at hq
 split at hq
 ·rename_i h
  cases hq
  obtain⟨h1,h2,h3⟩:=h
  have hv:=h1.bv hb hb2
  obtain⟨e1,e2,e3,e4⟩:=sA h3
  have:=(Sb hv (i:=i.toNat) (by omega) e3 h2).1
  rw[<- e4] at this
  exact⟨this.lt,ft this,λ v hv=>(mz hv).elim (hx v) (λ e=>e▸hr)⟩
 ·cases hq⟩
theorem lu(hb:n.bm=(b:Int))(hb2:b<18446744073709551616)(hx:∀r∈xs,r<=m){r:Int}(hr:r<=m)(i:Int):vM m (jc n xs ys b i r):=⟨λ q hq=>by
 unfold jc at hq
 split at hq
 ·rename_i h
  cases hq
  obtain⟨h1,h0,h2,h3⟩:=h
  have hv:=h1.bv hb hb2
  have e:i=((i.toNat:Nat):Int):=by omega
  have hk:i.toNat<64:=by omega
  rw[e] at h3 ⊢
  rw[pN b hk] at h3
  have:=(E0 hv (i:=i.toNat) hk h3 h2).1
  rw[oY b hk,nR b hk]
  exact⟨this.lt,ft this,λ v hv=>(ll hv).elim (hx v) (λ e=>e▸hr)⟩
 ·cases hq⟩
theorem lj(hb:n.bm=(b:Int))(hb2:b<18446744073709551616)(hx:∀r∈xs,r<=m)(i:Int):vM m (jd n xs ys b i):=⟨λ q hq=>by
 unfold jd at hq
 split at hq
 ·rename_i h
  cases hq
  obtain⟨h1,h3⟩:=h
  have hv:=h1.bv hb hb2
  obtain⟨e1,e2,e3,e4⟩:=sA h3
  have hk:i.toNat<64:=by omega
  have:=(Qv hv (i:=i.toNat) hk e3).1
  have e:i=((i.toNat:Nat):Int):=by omega
  rw[e,tG b hk,nR b hk]
  exact⟨this.lt,ft this,λ v hv=>hx v (ox hv)⟩
 ·cases hq⟩
end
theorem vM.nvB{m c:Nat}{o:Option (Nat×List Int)}(h:vM m o)(x:Option Addr×Nat):mU m c {(mT o x).c (lZ o) [] with main:=0,prev:=0,status:=0}:=by
 rw[F0]
 cases o with
 | none=>exact⟨bM _,bM _,bM _,(λ r hr=>nomatch hr),bM _,bM _,bM _,⟨0,rfl,by decide⟩,⟨0,rfl,by decide⟩⟩
 | some q =>
  have h1:=h.out q rfl
  exact⟨bM _,bM _,bM _,h1.2.2,bM _,bM _,bM _,⟨q.1,rfl,h1.1⟩,⟨0,rfl,by decide⟩⟩
theorem vM.len{m:Nat}{o:Option (Nat×List Int)}(h:vM m o):(lZ o).length<=274877906944:=by
 cases o with
 | none=>exact Nat.zero_le _
 | some q=>exact Nat.le_trans (h.out q rfl).2.1 (by decide)
theorem Dx(o:Option (Nat×List Int))(x:Option Addr×Nat):(mT o x).brN=(lZ o).length:=by cases o<;>rfl
theorem Dm(o:Option (Nat×List Int))(x:Option Addr×Nat):(mT o x).prN=([]:List Pr).length:=by cases o<;>rfl
theorem Pz{A F:Fr}{O:List Ow}{o:Option (Nat×List Int)}{x:Option Addr×Nat}:bB A ((x.1,aG (lZ o))::F) O [((mT o x).brA,aG (lZ o)),((mT o x).prA,dW [])]:=by
 cases o with
 | none=>exact .cons (.inl rfl) (.cons (.inl rfl) .nil)
 | some q=>exact .cons (.inr (.inr (.inl (.head _)))) (.cons (.inl rfl) .nil)
section
variable{v:aX}{n c:Nat}{w:World}
theorem fP(h:mU n c v.c):v.nd.bm=((v.c.bm.toNat:Nat):Int)/\v.c.bm.toNat<18446744073709551616:=by
 obtain⟨b,h1,h2⟩:=h.bm
 have h3:v.nd.bm=(b:Int):=h1
 have h4:v.c.bm=(b:Int):=h1
 rw[h3,h4]
 exact⟨by simp,by simpa using h2⟩
theorem Ij(h:mU n c v.c)(i:Int)(hr:rK w v.nd v.xs v.ys):Calls Tryz.prog 216 #[v.nd.v,.int .i64 i] w λ e w'=>e=.returned (.tuple #[.int .i64 ((mC v.c i).getD 0),.bool (mC v.c i).isSome])/\St w [] [] w':=by
 have h1:=fP h
 have:=nY (n:=v.nd) i h1.1 h1.2 hr
 rw[aAi h1.1 i] at this
 exact this
theorem pW(h:mU n c v.c)(i:Int):(mC v.c i).getD 0<=n:=by
 have h1:=fP h
 have e:=aAi (xs:=v.xs) (ys:=v.ys) h1.1 i
 rw[show mC v.c i=mC (v.nd.c v.xs v.ys) i from rfl,<- e]
 unfold Ll
 split
 ·exact mM h.br _
 ·exact bM _
noncomputable abbrev Ps (v:aX) (i r:Int):Option (Nat×List Int):=iz v.nd v.xs v.ys v.c.bm.toNat i r
noncomputable abbrev Xt (v:aX) (i r:Int):Option (Nat×List Int):=jc v.nd v.xs v.ys v.c.bm.toNat i r
noncomputable abbrev ax (v:aX) (i:Int):Option (Nat×List Int):=jd v.nd v.xs v.ys v.c.bm.toNat i
theorem xn(h:mU n c v.c)(i r:Int)(x:Option Addr×Nat):ae v.c i r=(mT (Ps v i r) x).c (lZ (Ps v i r)) []:=by
 rw[F0]
 exact(z9 (fP h).1 i r).symm
theorem z4(h:mU n c v.c)(i r:Int)(x:Option Addr×Nat):sf v.c i r=(mT (Xt v i r) x).c (lZ (Xt v i r)) []:=by
 rw[F0]
 exact(aAE (fP h).1 i r).symm
theorem p9(h:mU n c v.c)(i:Int)(x:Option Addr×Nat):Mh v.c i=(mT (ax v i) x).c (lZ (ax v i)) []:=by
 rw[F0]
 exact(zl (fP h).1 i).symm
theorem ry(h:mU n c v.c)(i r:Int)(hr:rK w v.nd v.xs v.ys):Calls Tryz.prog 220 #[v.nd.v,.int .i64 i,.int .i64 r] w (Xa w (Ps v i r)):=K8 (n:=v.nd) i r (fP h).1 (fP h).2 hr
theorem Yd(h:mU n c v.c)(i r:Int)(hr:rK w v.nd v.xs v.ys):Calls Tryz.prog 249 #[v.nd.v,.int .i64 i,.int .i64 r] w (Xa w (Xt v i r)):=H0 (n:=v.nd) i r (fP h).1 (fP h).2 hr
theorem y5(h:mU n c v.c)(i:Int)(hr:rK w v.nd v.xs v.ys):Calls Tryz.prog 252 #[v.nd.v,.int .i64 i] w (Xa w (ax v i)):=Kk (n:=v.nd) i (fP h).1 (fP h).2 hr
theorem Yr(h:mU n c v.c){r:Int}(hr:r<=n)(i:Int):vM n (Ps v i r):=ob (fP h).1 (fP h).2 h.br hr i
theorem aAe(h:mU n c v.c){r:Int}(hr:r<=n)(i:Int):vM n (Xt v i r):=lu (fP h).1 (fP h).2 h.br hr i
theorem yh(h:mU n c v.c)(i:Int):vM n (ax v i):=lj (fP h).1 (fP h).2 h.br i
end
theorem rU{n c:Nat}{g:Int}:mU n c {(({Nd.zero with kind:=2,gen:=g}:Nd).c [] []) with main:=0,prev:=0,status:=0}:=⟨bM _,bM _,bM _,(λ r hr=>nomatch hr),bM _,bM _,bM _,⟨0,rfl,by decide⟩,⟨0,rfl,by decide⟩⟩
section
variable{k:Cl}{bx bm:Nat}{x:XS}{dn:Bool}{rs:Rs}{D:List Nat}{A:Fr}{w:World}{g:Gx}
theorem Lb(hg:g.Ok)(t:gY)(o ex n:Int)(K:Bool->Tr)(ht:t.root<=9223372036854775807)(ho:o<=x.L.length)(he:ex<=x.L.length)(hn:n<=x.L.length)(go:gL g x (oI t o ex n K))(ok:x.Ok)(hs:SF w D (xH k bx bm x dn rs) A [] (xW x) w):Calls Tryz.prog 180 #[.pointer (some ⟨bx,0,none⟩),Mg t,.int .i64 o,.int .i64 ex,.int .i64 n] w λ e w'=>∃q:Bool×XS×List aX,e=.returned (.bool q.1)/\Nx g x q.2.1 q.2.2 (K q.1) 0/\SF w D (xH k bx bm q.2.1 dn rs) [] (aR q.2.2) (xW q.2.1) w':=by
 refine enter Tryz.func180 Tryz.ntmps180 rfl rfl (cK hs) ?_
 simp only[cN]
 simp only[Mg]
 all_goals (refine J0 ?_;refine bW (λ x6=>?_);refine xT ?_;refine qA ?_;refine bO ?_;refine aC (cM (hs:=xH k bx bm x dn rs) (os:=xW x) (A0:=[(none,aG []),(none,dW [])]) (hc:=λ w hs=>gX hg (n:={Nd.zero with kind:=8,bF:=o,exp:=ex,new:=n}) (xs:=[]) (ys:=[]) 0 _ rfl rfl (by decide) (Nat.zero_le _) (Z4 ho he hn) (bM _) go ok hs)) (λ x18 h18=>?_);refine jM ?_;refine J2 ?_;refine J3 ?_;refine qA ?_;refine aC (cM (hs:=xH k bx bm x18.2.1 dn rs) (os:=xW x18.2.1) (hc:=λ w hs=>rY hg t.root o x18.1 _ ht h18.bd h18.go h18.ok hs)) (λ x24 h24=>?_);refine qT ?_)
 all_goals
 refine bG (λ c25=>?_) (λ c25=>?_)
 ·all_goals refine dC ?_
  all_goals
   refine aU Tryz.results180 (λ w hw=>?_)
   obtain⟨N,hN,hf⟩:=(Ch.base (F:=[])).nx h18 |>.sj h24 |>.to h24 (h24.go.to (λ _=>if_neg (by simpa using c25))) (by have:=h18.lc;have:=h24.lc;omega) (bM _)
   exact⟨(false,x24.2,N),rfl,hN,(hw.dY hf).aS (hF:=by exact aV.all)⟩
 ·all_goals
   have g1:=h24.go.to (λ _=>if_pos (by simpa using c25))
   have hl24:=h24.len
   have hb18:=h18.bd
  all_goals (refine bD ?_;refine J2 ?_;refine bX ?_;refine aA ?_;refine aC (cM (hs:=xH k bx bm x24.2 dn rs) (os:=xW x24.2) (hc:=λ w hs=>O4 hg t x18.1 _ ht (by omega) g1 h24.ok hs)) (λ x29 h29=>?_);refine aH ?_;refine jN ?_;refine aA ?_;refine aC (cM (hs:=xH k bx bm x29.1 dn rs) (os:=xW x29.1) (hc:=λ w hs=>cR x18.1 _ (by have:=h29.len;omega) h29.go h29.ok hs)) (λ x33 h33=>?_);refine dF ?_;refine aC (cM (hs:=xH k bx bm x29.1 dn rs) (os:=xW x29.1) (hc:=λ w hs=>pX hg (aD x29.1.L x18.1).nd.status _ (h33.2.i64 h29.ok.lL h29.ok.lc).2.2.2.2.2 h33.1 h29.ok hs)) (λ x35 h35=>?_);refine jM ?_;refine dX [(0,[]),(1,[]),(2,[]),(3,[]),(4,[]),(5,[]),(6,[]),(7,[2]),(8,[])] ?_;refine aQ ?_;refine nA ?_;refine iP ?_;refine iP ?_;refine bA (i:=7) (hq:=(cM (hs:=xH k bx bm x35.2 dn rs) (os:=xW x35.2) (hc:=λ w hs=>G8 x18.1 x35.1 _ (by have:=h29.len;have:=h35.len;omega) h35.go h35.ok hs))) (h:=λ x43 h43=>?_);refine bA (i:=8) (hq:=(cM (hs:=xH k bx bm x35.2 dn rs) (os:=xW x35.2) (hc:=λ w hs=>rY hg t.root x18.1 x43 _ ht h43.2 h43.1 h35.ok hs))) (h:=λ x44 h44=>?_);refine eC ?_;refine kY ?_;refine Hp ?_)
  all_goals ((refine fS 50 (λ g50=>?_) (λ g50=>?_)<;>(first|refine aN ?_|(refine aF ?_;refine aA ?_))))
  all_goals (refine zM ?_;refine J1 ?_)
  all_goals
   refine aU Tryz.results180 (λ w hw=>?_)
   first
   | (obtain⟨N,hN,hf⟩:=(Ch.nx h29 ((Ch.base (F:=[])).nx h18 |>.sj h24)) |>.sj h35 |>.sj h44 |>.to h44 h44.go (by have:=h18.lc;have:=h24.lc;have:=h29.lc;have:=h35.lc;have:=h44.lc;omega) (bM _);exact⟨(x35.1==1,x44.2,N),rfl,hN,(hw.dY hf).aS (hF:=by exact aV.all)⟩)
   | (obtain⟨N,hN,hf⟩:=(Ch.nx h29 ((Ch.base (F:=[])).nx h18 |>.sj h24)) |>.sj h35 |>.sj h44 |>.to (t':=K false) h44 (h44.go.cA (by first|assumption|simp_all)) (by have:=h18.lc;have:=h24.lc;have:=h29.lc;have:=h35.lc;have:=h44.lc;omega) (bM _);exact⟨(false,x44.2,N),rfl,hN,(hw.dY hf).aS (hF:=by exact aV.all)⟩)
theorem Bq(hg:g.Ok)(c index r:Int)(K:Int->Tr)(hc:c<=x.L.length)(hr:r<=x.L.length)(hA:∀f∈aR x.L,f∈A)(go:gL g x (Fo c index r K))(ok:x.Ok)(hs:SF w D (xH k bx bm x dn rs) A [] (xW x) w):Calls Tryz.prog 217 #[.pointer (some ⟨bx,0,none⟩),.int .i64 c,.int .i64 index,.int .i64 r] w λ e w'=>∃q:Int×XS×List aX,e=.returned (.int .i64 q.1)/\Nx g x q.2.1 q.2.2 (K q.1) q.1/\SF w D (xH k bx bm q.2.1 dn rs) [] (aR q.2.2) (xW q.2.1) w':=by
 refine enter Tryz.func217 Tryz.ntmps217 rfl rfl (cK hs) ?_
 simp only[cN]
 all_goals (refine dC ?_;refine jN ?_;refine aC (cM (hs:=xH k bx bm x dn rs) (os:=xW x) (hc:=λ w hs=>cR c _ hc go ok hs)) (λ x14 h14=>?_);refine qA ?_;refine aC (cF (hc:=λ w1 hw=>ry (v:=aD x.L c) (ok.nv c) index r (ok.sE hw hA c))) (λ x17 h17=>?_);refine No ?_;refine aJ (λ x9=>?_);refine yN ?_;refine J2 ?_;refine bX ?_;refine aA ?_;refine aC (cM (hs:=xH k bx bm x dn rs) (os:=xW x) (A0:=[((mT (Ps (aD x.L c) index r) x17).brA,aG (lZ (Ps (aD x.L c) index r))),((mT (Ps (aD x.L c) index r) x17).prA,dW [])]) (hA:=Pz) (hc:=λ w hs=>gX hg (n:=mT (Ps (aD x.L c) index r) x17) (xs:=lZ (Ps (aD x.L c) index r)) (ys:=[]) c _ (Dx _ _) (Dm _ _) (Yr (ok.nv c) hr index).len (Nat.zero_le _) ((Yr (ok.nv c) hr index).nvB _) hc (by rw[<- xn (ok.nv c)];exact h14.1) ok hs)) (λ x23 h23=>?_);refine J1 ?_)
 all_goals
 refine aU Tryz.results217 (λ w hw=>?_)
 exact⟨x23,rfl,h23,hw.aS (hF:=by exact aV.gG λ f hf=>List.mem_append_left _ hf)⟩
end
end

/- Executions of the reference: RENEW, CLEAN. -/
section
open Go Go.RowKit Go.Ct
theorem fU{h:Nat}(hh:h<18446744073709551616)(level:Int)(w:World):Calls Tryz.prog 218 #[.int .u64 (h:Int),.int .i64 level] w λ e w'=>e=.returned (.int .i64 (gZ h level))/\St w [] [] w':=by
 by_cases hl:level<0∨10<level
 ·unfold gZ
  rw[if_pos hl]
  refine enter Tryz.func218 Tryz.ntmps218 rfl rfl (SF.s0 w) ?_
  simp only[cN]
  all_goals (refine dC ?_;refine lW ?_;refine Ju ?_)
  all_goals ((refine fS 7 (λ g7=>?_) (λ g7=>?_)<;>(try (exfalso;omega))<;>(first|refine aN ?_|(refine aF ?_;refine aA ?_))))
  all_goals (refine I3 ?_;refine aH ?_)
  all_goals
  refine bG (λ c10=>?_) (λ c10=>?_)
  ·all_goals try (exfalso;omega)
   all_goals refine dC ?_
   all_goals
    refine aU Tryz.results218 (λ w hw=>?_)
    exact⟨rfl,hw.done⟩
  ·try exact nv c10
   all_goals try (exfalso;omega)
   all_goals refine qD ?_
   all_goals
    refine fZ [0,1,11,12,13,14,15,16] (λ y:Nat=>[]) (λ y=>False) (λ y=>y) (0) (by omega) ?_ (λ y f hx=>?_)
    ·repeat (first|exact bK _|refine bC (by first|exact rfl|(conv=>{lhs;whnf};simp;done)) ?_)
    dsimp only[iL,List.map,List.cons_append,List.nil_append]
    all_goals (refine lW ?_;refine zP ?_;refine aH ?_)
    all_goals
    refine bG (λ c12=>?_) (λ c12=>?_)
    ·try exact nv c12
     all_goals try (exfalso;omega)
     all_goals (refine qD ?_;refine zK ?_;refine aB (NO_RULE_binOp) rfl ?_;refine J1 ?_;refine fT ?_;refine zK ?_;refine rS ?_;refine J1 ?_)
     all_goals
      refine eU (y+1) ?_ ?_ ?_
      ·first|omega|(simp only[];omega)
      ·repeat' (first|exact bK _|refine bC ?_ ?_)
       all_goals (first|exact rfl|(conv=>{lhs;whnf};simp;done)|(conv=>{lhs;whnf};congr 1;omega))
      ·exact hx.elim
    ·try exact nv c12
     all_goals try (exfalso;omega)
     all_goals (refine bV rfl ?_;refine J2 ?_;refine qu ?_;refine lP ?_;refine J1 ?_)
     all_goals
      refine aU Tryz.results218 (λ w hw=>?_)
      exact hx.elim
 ·unfold gZ
  rw[if_neg hl]
  exact Cr (l:=level.toNat) (by omega) hh (by omega) w
section
variable{m c:Nat}{o:Option (Nat×List Int)}{w:World}
noncomputable abbrev coB (o:Option (Nat×List Int)) (x:Option Addr×Nat) (level:Int) (s:Nd):Bool:=Sd (mT o x) (lZ o) [] level s
noncomputable abbrev Ng (o:Option (Nat×List Int)) (x:Option Addr×Nat) (level:Int) (s:Nd):Nd:=qb (coB o x level s) (mT o x) s
noncomputable abbrev We (o:Option (Nat×List Int)) (x:Option Addr×Nat) (level:Int) (s:Nd):List Int:=ja (coB o x level s) (lZ o)
theorem j9{α:Type}(t:Bool):ja t ([]:List α)=[]:=by unfold ja;split<;>rfl
theorem Ou(h:vM m o)(x:Option Addr×Nat):∃b:Nat,(mT o x).bm=(b:Int)/\b<18446744073709551616:=by
 cases o with
 | none=>exact⟨0,rfl,by decide⟩
 | some q=>exact⟨q.1,rfl,(h.out q rfl).1⟩
theorem N0(h:vM m o){x:Option Addr×Nat}(hc:Go.Ct.Cl w x.1 (aG (lZ o))):rK w (mT o x) (lZ o) []:=by
 refine⟨Dx _ _,Dm _ _,?_,?_,by have:=h.len;omega,by decide⟩
 ·cases o with
  | none=>exact Cl.nil _ _
  | some q=>exact hc
 ·exact Cl.nil _ _
theorem S6(h:vM m o){x:Option Addr×Nat}(level:Int)(s:Nd)(hc:Go.Ct.Cl w x.1 (aG (lZ o))):Calls Tryz.prog 221 #[(mT o x).v,.int .i64 level,s.v] w λ e w'=>e=.returned (Ng o x level s).v/\St w [] [] w':=by
 obtain⟨b,h1,h2⟩:=Ou h x
 exact Df (n:=mT o x) level s h1 h2 (N0 h hc)
theorem rq(x:Option Addr×Nat)(level:Int)(s:Nd):ug (Hw o) level (s.c [] [])=(Ng o x level s).c (We o x level s) []:=by
 have:=(aAt (n:=mT o x) (s:=s) (xs:=lZ o) (ys:=[]) level).symm
 rw[F0,j9] at this
 exact this
theorem Y0(x:Option Addr×Nat)(level:Int)(s:Nd):(Ng o x level s).brN=(We o x level s).length:=by
 unfold Ng qb We ja
 split
 ·rfl
 ·exact Dx _ _
theorem az(x:Option Addr×Nat)(level:Int)(s:Nd):(Ng o x level s).prN=([]:List Pr).length:=by
 unfold Ng qb
 split
 ·rfl
 ·exact Dm _ _
theorem S4(h:vM m o)(x:Option Addr×Nat)(level:Int)(s:Nd):(We o x level s).length<=274877906944:=by
 unfold We ja
 split
 ·exact Nat.zero_le _
 ·exact h.len
theorem Tt(h:vM m o)(x:Option Addr×Nat)(level:Int){s:Nd}(hh:∃b:Nat,s.hash=(b:Int)/\b<18446744073709551616):mU m c {(Ng o x level s).c (We o x level s) [] with main:=0,prev:=0,status:=0}:=by
 unfold Ng qb We ja
 split
 ·exact⟨bM _,bM _,bM _,(λ r hr=>nomatch hr),bM _,bM _,bM _,⟨0,rfl,by decide⟩,hh⟩
 ·exact h.nvB x
theorem rm{A F:Fr}{O:List Ow}{x:Option Addr×Nat}{level:Int}{s:Nd}:bB A ((x.1,aG (lZ o))::F) O [((Ng o x level s).brA,aG (We o x level s)),((Ng o x level s).prA,dW [])]:=by
 unfold Ng qb We ja
 split
 ·exact .cons (.inl rfl) (.cons (.inl rfl) .nil)
 ·exact Pz
end
theorem ic(n:Nd):(Hf n).brN=([]:List Int).length/\(Hf n).prN=([]:List Pr).length:=by unfold Hf;split<;>exact⟨rfl,rfl⟩
theorem Nr{n:Nd}(h:∃b:Nat,n.hash=(b:Int)/\b<18446744073709551616):∃b:Nat,(Hf n).hash=(b:Int)/\b<18446744073709551616:=by
 unfold Hf
 split
 ·exact h
 ·exact⟨0,rfl,by decide⟩
theorem th{n:Nd}{m c:Nat}(h:∃b:Nat,n.hash=(b:Int)/\b<18446744073709551616):mU m c {(Hf n).c [] [] with main:=0,prev:=0,status:=0}:=by
 have h2:=Nr h
 revert h2
 unfold Hf
 split<;>exact λ h2=>⟨bM _,bM _,bM _,(λ r hr=>nomatch hr),bM _,bM _,bM _,⟨0,rfl,by decide⟩,h2⟩
theorem xl{v:aX}{n c:Nat}(h:mU n c v.c){i r:Int}:ae v.c i r=Hw (Ps v i r):=(z9 (fP h).1 i r).symm
theorem z8{v:aX}{n c:Nat}(h:mU n c v.c){i:Int}:Mh v.c i=Hw (ax v i):=(zl (fP h).1 i).symm
theorem td{o:Option Int}{c:Int}(h1:o.isSome=true)(h2:o.getD 0=c):o=some c:=by
 cases o with
 | none=>cases h1
 | some v=>exact congrArg some h2
theorem ju{o:Option Int}{c:Int}(h1:o.isSome=false):¬o=some c:=λ h=>by rw[h] at h1;cases h1
theorem mj{o:Option Int}{c:Int}(h1:o.getD 0≠c):¬o=some c:=λ h=>by rw[h] at h1;exact h1 rfl
section
variable{k:Cl}{bx bm:Nat}{x:XS}{dn:Bool}{rs:Rs}{D:List Nat}{A:Fr}{w:World}{g:Gx}
theorem ki(hg:g.Ok)(t:gY)(i c index:Int)(K:Int->Tr)(ht:t.root<=9223372036854775807)(hi:i<=x.L.length)(hc:c<=x.L.length)(hA:∀f∈aR x.L,f∈A)(go:gL g x (K6 t i c index K))(ok:x.Ok)(hs:SF w D (xH k bx bm x dn rs) A [] (xW x) w):Calls Tryz.prog 181 #[.pointer (some ⟨bx,0,none⟩),Mg t,.int .i64 i,.int .i64 c,.int .i64 index] w λ e w'=>∃q:Int×XS×List aX,e=.returned (.int .i64 q.1)/\Nx g x q.2.1 q.2.2 (K q.1) q.1/\SF w D (xH k bx bm q.2.1 dn rs) [] (aR q.2.2) (xW q.2.1) w':=by
  refine enter Tryz.func181 Tryz.ntmps181 rfl rfl (cK hs) ?_
  simp only[cN]
  simp only[Mg]
  all_goals (refine J0 ?_;refine bW (λ x6=>?_);refine xT ?_;refine aC (cM (hs:=xH k bx bm x dn rs) (os:=xW x) (hc:=λ w hs=>cR c _ hc go ok hs)) (λ x18 h18=>?_);refine aA ?_;refine aY (cV (hc:=λ w1 hw=>Ij (v:=aD x.L c) (ok.nv c) index (ok.sE hw hA c))) (λ x20=>?_);refine aA ?_;refine aB (bU rf rfl) rfl ?_;refine aB (bU rf rfl) rfl ?_;refine J8 ?_;refine J2 ?_;refine bX ?_;refine aA ?_;refine aC (cM (hs:=xH k bx bm x dn rs) (os:=xW x) (hc:=λ w hs=>oK hg t ((mC (aD x.L c).c index).getD 0) _ ht (pW (ok.nv c) index) h18.1 ok hs)) (λ x26 h26=>?_);refine xT ?_;refine aA ?_;refine aC (cM (hs:=xH k bx bm x26.2.1 dn rs) (os:=xW x26.2.1) (hc:=λ w hs=>cR i _ (by have:=h26.len;omega) h26.go h26.ok hs)) (λ x30 h30=>?_);refine dF ?_;refine bO ?_;refine aA ?_;refine aC (cM (hs:=xH k bx bm x26.2.1 dn rs) (os:=xW x26.2.1) (A0:=[(none,aG []),(none,dW [])]) (hc:=λ w hs=>gX hg (n:={Nd.zero with kind:=2,gen:=(aD x26.2.1.L i).nd.gen}) (xs:=[]) (ys:=[]) x26.1 _ rfl rfl (by decide) (Nat.zero_le _) rU h26.bd h30.1 h26.ok hs)) (λ x34 h34=>?_))
  all_goals
   have hch:=Ch.nx h34 ((Ch.base (F:=[])).nx h26)
  all_goals (refine jM ?_;refine aW ?_;refine dX [(0,[]),(1,[]),(2,[]),(3,[]),(4,[]),(5,[]),(6,[]),(7,[]),(8,[1]),(9,[])] ?_;refine aQ ?_;refine bR ?_;refine iP ?_;refine iP ?_;refine iP ?_;refine bA (i:=8) (hq:=(cM (hs:=xH k bx bm x34.2.1 dn rs) (os:=xW x34.2.1) (A0:=aR x34.2.1.L) (hA:=Ch.all hch hA) (hc:=λ w hs=>Bq hg c index x34.1 _ (by have:=h26.len;have:=h34.len;omega) h34.bd (λ f hf=>hf) h34.go h34.ok hs))) (h:=λ x43 h43=>?_);refine bA (i:=9) (hq:=(cM (hs:=xH k bx bm x43.2.1 dn rs) (os:=xW x43.2.1) (hc:=λ w hs=>sO hg t i c x43.1 _ ht (by have:=h26.len;have:=h34.len;have:=h43.len;omega) h43.bd h43.go h43.ok hs))) (h:=λ x44 h44=>?_))
  all_goals
   have hch2:=Ch.nx h44 (Ch.nx h43 hch)
   have hlc:x.cs.length<=x44.2.1.cs.length:=by have:=h26.lc;have:=h34.lc;have:=h43.lc;have:=h44.lc;omega
  all_goals refine eC ?_
  all_goals
   refine bG (λ c44=>?_) (λ c44=>?_)
   · all_goals (refine J2 ?_;refine J1 ?_)
     all_goals
      refine aU Tryz.results181 (λ w hw=>?_)
      obtain⟨N,hN,hf⟩:=hch2.to h44 (h44.go.to (t':=K x34.1) (λ _=>by rw[if_pos (by assumption)])) hlc (show x34.1<=_ by have:=h34.bd;have:=h43.len;have:=h44.len;omega)
      exact⟨(x34.1,x44.2.1,N),rfl,hN,(hw.dY hf).aS (hF:=by exact aV.all)⟩
   · all_goals (refine bD ?_;refine dC ?_)
     all_goals
      refine aU Tryz.results181 (λ w hw=>?_)
      obtain⟨N,hN,hf⟩:=hch2.to h44 (h44.go.to (t':=K 0) (λ _=>by rw[if_neg (by simp only[Bool.not_eq_true];assumption)])) hlc (show(0:Int)<=_ from bM _)
      exact⟨(0,x44.2.1,N),rfl,hN,(hw.dY hf).aS (hF:=by exact aV.all)⟩
end
end

end Go.Proofs.YtbajmaoegmbfgaaGreat
