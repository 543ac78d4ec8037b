/- Executions of the reference: RDCSS, RENEW; functions that read lists of nodes. -/
import Derived.Test.YtadnboagdhcedaaGreatDoorGEx7
import Derived.Test.YtadnboagdhcedaaGreatDoorGGa
import Derived.Test.YtadnboagdhcedaaGreatDoorGNode4
import Derived.Test.YtadnboagdhcedaaGreatDoorGSh6
import Derived.Test.YtadnboagdhcedaaGreatDoorGJoin

set_option linter.unusedSimpArgs false
set_option linter.unusedVariables false
namespace Go.Ct
section
open Go Go.RowKit
theorem Ch.to{g:Gx}{x0 x X:XS}{F:Fr}{N:List aI}{t t':Tr}{b b':Int}(h:Ch x0 X F)(h2:Nx g x X N t b)(go:gS g X t')(hc:x0.cs.length<=X.cs.length)(hb:b'<=X.L.length):∃N,Nx g x0 X N t' b'/\∀f∈bD N,f.2=[]∨f∈F:=by
 obtain⟨N,h3,h4⟩:=h
 exact⟨N,⟨go,h2.ok,h3,hc,hb⟩,h4⟩
theorem XS.Ok.sR{w0 w:World}{M:List Nat}{H:List (Nat×Obj)}{A F:Fr}{O:List Ow}{x:XS}(ok:x.Ok)(h:SF w0 M H A F O w)(hA:∀f∈bD x.L,f∈A)(r:Int):qR w (aA x.L r).nd (aA x.L r).xs (aA x.L r).ys:=h.fp (Ch.base (F:=F)) hA ok r
end
end Go.Ct
namespace Go.Proofs.YtadnboagdhcedaaGreatDoor
section
open Go Go.RowKit Go.Ct
structure wF(n:Nat)(o:Option (Nat×List Int)):Prop where
 out:∀q,o=some q->q.1<18446744073709551616/\q.2.length<=64/\∀r∈q.2,r<=n
theorem fh{b:Nat}{xs:List Int}(h:BV b xs):xs.length<=64:=by rw[h.len];exact oY b 64
theorem n7{xs:List Int}{p:Nat}{r v:Int}(h:v∈Ae xs p r):v∈xs∨v=r:=by
 unfold Ae at h
 rcases List.mem_append.1 h with h|h
 ·exact .inl (List.mem_of_mem_take h)
 ·rcases List.mem_cons.1 h with h|h
  ·exact .inr h
  ·exact .inl (List.mem_of_mem_drop h)
theorem si{xs:List Int}{p:Nat}{r v:Int}(h:v∈vR xs p r):v∈xs∨v=r:=by
 unfold vR at h
 rcases List.mem_append.1 h with h|h
 ·exact .inl (List.mem_of_mem_take h)
 ·rcases List.mem_cons.1 h with h|h
  ·exact .inr h
  ·exact .inl (List.mem_of_mem_drop h)
theorem od{xs:List Int}{p:Nat}{v:Int}(h:v∈sF xs p):v∈xs:=by
 unfold sF at h
 rcases List.mem_append.1 h with h|h
 ·exact List.mem_of_mem_take h
 ·exact List.mem_of_mem_drop h
section
variable{n:Nd}{xs:List Int}{ys:List Pr}{b m:Nat}
theorem m8(hb:n.bm=(b:Int))(hb2:b<18446744073709551616)(hx:∀r∈xs,r<=m){r:Int}(hr:r<=m)(i:Int):wF m (mq n xs ys b i r):=⟨λ q hq=>by
 unfold mq at hq
 split at hq
 ·rename_i h
  cases hq
  obtain⟨h1,h2,h3⟩:=h
  have hv:=h1.bv hb hb2;obtain⟨e1,e2,e3,e4⟩:=rT h3
  have:=(Tq hv (i:=i.toNat) (by omega) e3 h2).1;rw[<- e4] at this;exact⟨this.lt,fh this,λ v hv=>(n7 hv).elim (hx v) (λ e=>e▸hr)⟩
 ·cases hq⟩
theorem ph(hb:n.bm=(b:Int))(hb2:b<18446744073709551616)(hx:∀r∈xs,r<=m){r:Int}(hr:r<=m)(i:Int):wF m (mw n xs ys b i r):=⟨λ q hq=>by
 unfold mw at hq
 split at hq
 ·rename_i h
  cases hq
  obtain⟨h1,h0,h2,h3⟩:=h
  have hv:=h1.bv hb hb2;have e:i=((i.toNat:Nat):Int):=by omega
  have hk:i.toNat<64:=by omega
  rw[e] at h3 ⊢;rw[qG b hk] at h3;have:=(Hn hv (i:=i.toNat) hk h3 h2).1;rw[pU b hk,oC b hk];exact⟨this.lt,fh this,λ v hv=>(si hv).elim (hx v) (λ e=>e▸hr)⟩
 ·cases hq⟩
theorem og(hb:n.bm=(b:Int))(hb2:b<18446744073709551616)(hx:∀r∈xs,r<=m)(i:Int):wF m (mv n xs ys b i):=⟨λ q hq=>by
 unfold mv at hq
 split at hq
 ·rename_i h
  cases hq
  obtain⟨h1,h3⟩:=h
  have hv:=h1.bv hb hb2;obtain⟨e1,e2,e3,e4⟩:=rT h3
  have hk:i.toNat<64:=by omega
  have:=(Sf hv (i:=i.toNat) hk e3).1;have e:i=((i.toNat:Nat):Int):=by omega
  rw[e,tP b hk,oC b hk]
  exact⟨this.lt,fh this,λ v hv=>hx v (od hv)⟩
 ·cases hq⟩
end
theorem wF.nvB{m c:Nat}{o:Option (Nat×List Int)}(h:wF m o)(x:Option Addr×Nat):pJ m c {(nB o x).c (mK o) [] with main:=0,prev:=0,status:=0}:=by
 rw[Fi]
 cases o with
 | none=>exact⟨bT _,bT _,bT _,(λ r hr=>nomatch hr),bT _,bT _,bT _,⟨0,rfl,by decide⟩,⟨0,rfl,by decide⟩⟩
 | some q =>
  have h1:=h.out q rfl;exact⟨bT _,bT _,bT _,h1.2.2,bT _,bT _,bT _,⟨q.1,rfl,h1.1⟩,⟨0,rfl,by decide⟩⟩
theorem wF.len{m:Nat}{o:Option (Nat×List Int)}(h:wF m o):(mK o).length<=274877906944:=by
 cases o with
 | none=>exact Nat.zero_le _
 | some q=>exact Nat.le_trans (h.out q rfl).2.1 (by decide)
theorem E4(o:Option (Nat×List Int))(x:Option Addr×Nat):(nB o x).brN=(mK o).length:=by cases o<;>rfl
theorem E5(o:Option (Nat×List Int))(x:Option Addr×Nat):(nB o x).prN=([]:List Pr).length:=by cases o<;>rfl
theorem Sg{A F:Fr}{O:List Ow}{o:Option (Nat×List Int)}{x:Option Addr×Nat}:bU A ((x.1,aH (mK o))::F) O [((nB o x).brA,aH (mK o)),((nB o x).prA,dK [])]:=by
 cases o with
 | none=>exact .cons (.inl rfl) (.cons (.inl rfl) .nil)
 | some q=>exact .cons (.inr (.inr (.inl (.head _)))) (.cons (.inl rfl) .nil)
section
variable{v:aI}{n c:Nat}{w:World}
theorem fS(h:pJ n c v.c):v.nd.bm=((v.c.bm.toNat:Nat):Int)/\v.c.bm.toNat<18446744073709551616:=by
 obtain⟨b,h1,h2⟩:=h.bm
 have h3:v.nd.bm=(b:Int):=h1;have h4:v.c.bm=(b:Int):=h1;rw[h3,h4];exact⟨by simp,by simpa using h2⟩
theorem I5(h:pJ n c v.c)(i:Int)(hr:qR w v.nd v.xs v.ys):Calls Tryz.prog 115 #[v.nd.v,.int .i64 i] w λ e w'=>e=.returned (.tuple #[.int .i64 ((mU v.c i).getD 0),.bool (mU v.c i).isSome])/\St w [] [] w':=by
 have h1:=fS h;have:=nZ (n:=v.nd) i h1.1 h1.2 hr;rw[aBp h1.1 i] at this;exact this
theorem qL(h:pJ n c v.c)(i:Int):(mU v.c i).getD 0<=n:=by
 have h1:=fS h;have e:=aBp (xs:=v.xs) (ys:=v.ys) h1.1 i;rw[show mU v.c i=mU (v.nd.c v.xs v.ys) i from rfl,<- e];unfold Lh;split
 ·exact nV h.br _
 ·exact bT _
abbrev Rn(v:aI)(i r:Int):Option (Nat×List Int):=mq v.nd v.xs v.ys v.c.bm.toNat i r
abbrev Zu(v:aI)(i r:Int):Option (Nat×List Int):=mw v.nd v.xs v.ys v.c.bm.toNat i r
abbrev ar(v:aI)(i:Int):Option (Nat×List Int):=mv v.nd v.xs v.ys v.c.bm.toNat i
theorem aBo(h:pJ n c v.c)(i r:Int)(x:Option Addr×Nat):jl v.c i r=(nB (Rn v i r) x).c (mK (Rn v i r)) []:=by
 rw[Fi]
 exact(aCp (fS h).1 i r).symm
theorem aB5(h:pJ n c v.c)(i r:Int)(x:Option Addr×Nat):yf v.c i r=(nB (Zu v i r) x).c (mK (Zu v i r)) []:=by
 rw[Fi]
 exact(aCF (fS h).1 i r).symm
theorem v8(h:pJ n c v.c)(i:Int)(x:Option Addr×Nat):Nr v.c i=(nB (ar v i) x).c (mK (ar v i)) []:=by
 rw[Fi]
 exact(aBG (fS h).1 i).symm
theorem ux(h:pJ n c v.c)(i r:Int)(hr:qR w v.nd v.xs v.ys):Calls Tryz.prog 118 #[v.nd.v,.int .i64 i,.int .i64 r] w (Y4 w (Rn v i r)):=Ma (n:=v.nd) i r (fS h).1 (fS h).2 hr
theorem ja(h:pJ n c v.c)(i r:Int)(hr:qR w v.nd v.xs v.ys):Calls Tryz.prog 153 #[v.nd.v,.int .i64 i,.int .i64 r] w (Y4 w (Zu v i r)):=Iv (n:=v.nd) i r (fS h).1 (fS h).2 hr
theorem aBl(h:pJ n c v.c)(i:Int)(hr:qR w v.nd v.xs v.ys):Calls Tryz.prog 156 #[v.nd.v,.int .i64 i] w (Y4 w (ar v i)):=Mu (n:=v.nd) i (fS h).1 (fS h).2 hr
theorem mi(h:pJ n c v.c){r:Int}(hr:r<=n)(i:Int):wF n (Rn v i r):=m8 (fS h).1 (fS h).2 h.br hr i
theorem aAZ(h:pJ n c v.c){r:Int}(hr:r<=n)(i:Int):wF n (Zu v i r):=ph (fS h).1 (fS h).2 h.br hr i
theorem aBm(h:pJ n c v.c)(i:Int):wF n (ar v i):=og (fS h).1 (fS h).2 h.br i
end
theorem sH{n c:Nat}{g:Int}:pJ n c {(({Nd.zero with kind:=2,gen:=g}:Nd).c [] []) with main:=0,prev:=0,status:=0}:=⟨bT _,bT _,bT _,(λ r hr=>nomatch hr),bT _,bT _,bT _,⟨0,rfl,by decide⟩,⟨0,rfl,by decide⟩⟩
section
variable{k:Cl}{bx bm:Nat}{x:XS}{dn:Bool}{rs:Rs}{D:List Nat}{A:Fr}{w:World}{g:Gx}
theorem Mk(hg:g.Ok)(t:iS)(o ex n:Int)(K:Bool->Tr)(ht:t.root<=9223372036854775807)(ho:o<=x.L.length)(he:ex<=x.L.length)(hn:n<=x.L.length)(go:gS g x (Cp t o ex n K))(ok:x.Ok)(hs:SF w D (xH k bx bm x dn rs) A [] (xW x) w):Calls Tryz.prog 85 #[.pointer (some ⟨bx,0,none⟩),N3 t,.int .i64 o,.int .i64 ex,.int .i64 n] w λ e w'=>∃q:Bool×XS×List aI,e=.returned (.bool q.1)/\Nx g x q.2.1 q.2.2 (K q.1) 0/\SF w D (xH k bx bm q.2.1 dn rs) [] (bD q.2.2) (xW q.2.1) w':=by
 refine enter Tryz.func85 Tryz.ntmps85 rfl rfl (cL hs) ?_;simp only[cP]
 simp only[N3]
 refine J0 ?_;refine bF (λ x6=>?_);refine vE ?_;refine pK ?_;refine bQ ?_;refine aD (cM (hs:=xH k bx bm x dn rs) (os:=xW x) (A0:=[(none,aH []),(none,dK [])]) (hc:=λ w hs=>iD hg (n:={Nd.zero with kind:=8,bO:=o,exp:=ex,new:=n}) (xs:=[]) (ys:=[]) 0 _ rfl rfl (by decide) (Nat.zero_le _) (iw ho he hn) (bT _) go ok hs)) (λ x18 h18=>?_);refine Ke4 ?_;refine J3 ?_;refine pK ?_;refine aD (cM (hs:=xH k bx bm x18.2.1 dn rs) (os:=xW x18.2.1) (hc:=λ w hs=>wZ hg t.root o x18.1 _ ht h18.bd h18.go h18.ok hs)) (λ x24 h24=>?_);refine lA ?_;refine bA (λ c25=>?_) (λ c25=>?_)
 ·refine cR ?_;refine aR Tryz.results85 (λ w hw=>?_);obtain⟨N,hN,hf⟩:=(Ch.base (F:=[])).nx h18 |>.zp h24 |>.to h24 (h24.go.to (λ _=>if_neg (by simpa using c25))) (by have:=h18.lc;have:=h24.lc;omega) (bT _)
  exact⟨(false,x24.2,N),rfl,hN,(hw.fN hf).zA0⟩
 ·have g1:=h24.go.to (λ _=>if_pos (by simpa using c25));have hl24:=h24.len;have hb18:=h18.bd;refine Kb3 ?_;refine bI ?_;refine aB ?_;refine aD (cM (hs:=xH k bx bm x24.2 dn rs) (os:=xW x24.2) (hc:=λ w hs=>Qm hg t x18.1 _ ht (by omega) g1 h24.ok hs)) (λ x29 h29=>?_);refine aK ?_;refine Ke5 ?_;refine aD (cM (hs:=xH k bx bm x29.1 dn rs) (os:=xW x29.1) (hc:=λ w hs=>cW x18.1 _ (by have:=h29.len;omega) h29.go h29.ok hs)) (λ x33 h33=>?_);refine cJ ?_;refine aD (cM (hs:=xH k bx bm x29.1 dn rs) (os:=xW x29.1) (hc:=λ w hs=>qM hg (aA x29.1.L x18.1).nd.status _ (h33.2.i64 h29.ok.lL h29.ok.lc).2.2.2.2.2 h33.1 h29.ok hs)) (λ x35 h35=>?_);refine gX ?_;refine dZ [(0,[]),(1,[]),(2,[]),(3,[]),(4,[]),(5,[]),(6,[]),(7,[2]),(8,[])] ?_;refine aL ?_;refine iT ?_;refine iJ ?_;refine iJ ?_;refine bL (i:=7) (hq:=(cM (hs:=xH k bx bm x35.2 dn rs) (os:=xW x35.2) (hc:=λ w hs=>F9 x18.1 x35.1 _ (by have:=h29.len;have:=h35.len;omega) h35.go h35.ok hs))) (h:=λ x43 h43=>?_);refine bL (i:=8) (hq:=(cM (hs:=xH k bx bm x35.2 dn rs) (os:=xW x35.2) (hc:=λ w hs=>wZ hg t.root x18.1 x43 _ ht h43.2 h43.1 h35.ok hs))) (h:=λ x44 h44=>?_);refine dJ ?_;refine oR ?_;refine C6 ?_;(refine eM 50 (λ g50=>?_) (λ g50=>?_)<;>refine Ka0 ?_);all_goals (refine zC ?_;refine J1 ?_)
  all_goals
  refine aR Tryz.results85 (λ w hw=>?_)
  first
   | (obtain⟨N,hN,hf⟩:=(Ch.nx h29 ((Ch.base (F:=[])).nx h18 |>.zp h24)) |>.zp h35 |>.zp h44 |>.to h44 h44.go (by have:=h18.lc;have:=h24.lc;have:=h29.lc;have:=h35.lc;have:=h44.lc;omega) (bT _);exact⟨(x35.1==1,x44.2,N),rfl,hN,(hw.fN hf).zA0⟩)
   | (obtain⟨N,hN,hf⟩:=(Ch.nx h29 ((Ch.base (F:=[])).nx h18 |>.zp h24)) |>.zp h35 |>.zp h44 |>.to (t':=K false) h44 (h44.go.cB (by assumption)) (by have:=h18.lc;have:=h24.lc;have:=h29.lc;have:=h35.lc;have:=h44.lc;omega) (bT _);exact⟨(false,x44.2,N),rfl,hN,(hw.fN hf).zA0⟩)
theorem Cs(hg:g.Ok)(c index r:Int)(K:Int->Tr)(hc:c<=x.L.length)(hr:r<=x.L.length)(hA:∀f∈bD x.L,f∈A)(go:gS g x (F7 c index r K))(ok:x.Ok)(hs:SF w D (xH k bx bm x dn rs) A [] (xW x) w):Calls Tryz.prog 116 #[.pointer (some ⟨bx,0,none⟩),.int .i64 c,.int .i64 index,.int .i64 r] w λ e w'=>∃q:Int×XS×List aI,e=.returned (.int .i64 q.1)/\Nx g x q.2.1 q.2.2 (K q.1) q.1/\SF w D (xH k bx bm q.2.1 dn rs) [] (bD q.2.2) (xW q.2.1) w':=by
 refine enter Tryz.func116 Tryz.ntmps116 rfl rfl (cL hs) ?_;simp only[cP]
 refine cR ?_;refine jJ ?_;refine aD (cM (hs:=xH k bx bm x dn rs) (os:=xW x) (hc:=λ w hs=>cW c _ hc go ok hs)) (λ x14 h14=>?_);refine pK ?_;refine aD (cF (hc:=λ w1 hw=>ux (v:=aA x.L c) (ok.nv c) index r (ok.sR hw hA c))) (λ x17 h17=>?_);refine uV ?_;refine aT (λ x9=>?_);refine El ?_;refine Kd2 ?_;refine aB ?_;refine aD (cM (hs:=xH k bx bm x dn rs) (os:=xW x) (A0:=[((nB (Rn (aA x.L c) index r) x17).brA,aH (mK (Rn (aA x.L c) index r))),((nB (Rn (aA x.L c) index r) x17).prA,dK [])]) (hA:=Sg) (hc:=λ w hs=>iD hg (n:=nB (Rn (aA x.L c) index r) x17) (xs:=mK (Rn (aA x.L c) index r)) (ys:=[]) c _ (E4 _ _) (E5 _ _) (mi (ok.nv c) hr index).len (Nat.zero_le _) ((mi (ok.nv c) hr index).nvB _) hc (by rw[<- aBo (ok.nv c)];exact h14.1) ok hs)) (λ x23 h23=>?_);refine J1 ?_;refine aR Tryz.results116 (λ w hw=>?_);exact⟨x23,rfl,h23,hw.aQ (hF:=by exact aP.kJ λ f hf=>List.mem_append_left _ hf)⟩
end
end

/- Executions of the reference: RENEW, CLEAN. -/
section
open Go Go.RowKit Go.Ct
theorem fF{h:Nat}(hh:h<18446744073709551616)(level:Int)(w:World):Calls Tryz.prog 79 #[.int .u64 (h:Int),.int .i64 level] w λ e w'=>e=.returned (.int .i64 (iE h level))/\St w [] [] w':=by
 by_cases hl:level<0∨10<level
 ·unfold iE;rw[if_pos hl];refine enter Tryz.func79 Tryz.ntmps79 rfl rfl (SF.s0 w) ?_;simp only[cP]
  refine Kb4 ?_;refine zB ?_;(refine eM 7 (λ g7=>?_) (λ g7=>?_)<;>refine Ka0 ?_);all_goals (refine Kb2 ?_)
  all_goals
  refine bA (λ c10=>?_) (λ c10=>?_)
  ·all_goals try (exfalso;omega)
   all_goals refine cR ?_
   all_goals
    refine aR Tryz.results79 (λ w hw=>?_);exact⟨rfl,hw.done⟩
  ·try exact nv c10
   all_goals try (exfalso;omega)
 ·unfold iE
  rw[if_neg hl]
  exact Ef (l:=level.toNat) (by omega) hh (by omega) w
section
variable{m c:Nat}{o:Option (Nat×List Int)}{w:World}
abbrev coB(o:Option (Nat×List Int))(x:Option Addr×Nat)(level:Int)(s:Nd):Bool:=Ry (nB o x) (mK o) [] level s
abbrev Of(o:Option (Nat×List Int))(x:Option Addr×Nat)(level:Int)(s:Nd):Nd:=wv (coB o x level s) (nB o x) s
abbrev Zh(o:Option (Nat×List Int))(x:Option Addr×Nat)(level:Int)(s:Nd):List Int:=mo (coB o x level s) (mK o)
theorem qd{α:Type}(t:Bool):mo t ([]:List α)=[]:=by unfold mo;split<;>rfl
theorem N7(h:wF m o)(x:Option Addr×Nat):∃b:Nat,(nB o x).bm=(b:Int)/\b<18446744073709551616:=by
 cases o with
 | none=>exact⟨0,rfl,by decide⟩
 | some q=>exact⟨q.1,rfl,(h.out q rfl).1⟩
theorem Q8(h:wF m o){x:Option Addr×Nat}(hc:Go.Ct.Cl w x.1 (aH (mK o))):qR w (nB o x) (mK o) []:=by
 refine⟨E4 _ _,E5 _ _,?_,?_,by have:=h.len;omega,by decide⟩
 ·cases o with
  | none=>exact Cl.nil _ _
  | some q=>exact hc
 ·exact Cl.nil _ _
theorem Vx(h:wF m o){x:Option Addr×Nat}(level:Int)(s:Nd)(hc:Go.Ct.Cl w x.1 (aH (mK o))):Calls Tryz.prog 119 #[(nB o x).v,.int .i64 level,s.v] w λ e w'=>e=.returned (Of o x level s).v/\St w [] [] w':=by
 obtain⟨b,h1,h2⟩:=N7 h x
 exact Ei (n:=nB o x) level s h1 h2 (Q8 h hc)
theorem uq(x:Option Addr×Nat)(level:Int)(s:Nd):xy (Ir o) level (s.c [] [])=(Of o x level s).c (Zh o x level s) []:=by
 have:=(aCy (n:=nB o x) (s:=s) (xs:=mK o) (ys:=[]) level).symm;rw[Fi,qd] at this;exact this
theorem j7(x:Option Addr×Nat)(level:Int)(s:Nd):(Of o x level s).brN=(Zh o x level s).length:=by
 unfold Of wv Zh mo
 split
 ·rfl
 ·exact E4 _ _
theorem ah(x:Option Addr×Nat)(level:Int)(s:Nd):(Of o x level s).prN=([]:List Pr).length:=by
 unfold Of wv
 split
 ·rfl
 ·exact E5 _ _
theorem U5(h:wF m o)(x:Option Addr×Nat)(level:Int)(s:Nd):(Zh o x level s).length<=274877906944:=by
 unfold Zh mo
 split
 ·exact Nat.zero_le _
 ·exact h.len
theorem Wi(h:wF m o)(x:Option Addr×Nat)(level:Int){s:Nd}(hh:∃b:Nat,s.hash=(b:Int)/\b<18446744073709551616):pJ m c {(Of o x level s).c (Zh o x level s) [] with main:=0,prev:=0,status:=0}:=by
 unfold Of wv Zh mo
 split
 ·exact⟨bT _,bT _,bT _,(λ r hr=>nomatch hr),bT _,bT _,bT _,⟨0,rfl,by decide⟩,hh⟩
 ·exact h.nvB x
theorem u6{A F:Fr}{O:List Ow}{x:Option Addr×Nat}{level:Int}{s:Nd}:bU A ((x.1,aH (mK o))::F) O [((Of o x level s).brA,aH (Zh o x level s)),((Of o x level s).prA,dK [])]:=by
 unfold Of wv Zh mo
 split
 ·exact .cons (.inl rfl) (.cons (.inl rfl) .nil)
 ·exact Sg
end
theorem lu(n:Nd):(Ft n).brN=([]:List Int).length/\(Ft n).prN=([]:List Pr).length:=by unfold Ft;split<;>exact⟨rfl,rfl⟩
theorem Qt{n:Nd}(h:∃b:Nat,n.hash=(b:Int)/\b<18446744073709551616):∃b:Nat,(Ft n).hash=(b:Int)/\b<18446744073709551616:=by
 unfold Ft
 split
 ·exact h
 ·exact⟨0,rfl,by decide⟩
theorem z9{n:Nd}{m c:Nat}(h:∃b:Nat,n.hash=(b:Int)/\b<18446744073709551616):pJ m c {(Ft n).c [] [] with main:=0,prev:=0,status:=0}:=by
 have h2:=Qt h;revert h2;unfold Ft;split<;>exact λ h2=>⟨bT _,bT _,bT _,(λ r hr=>nomatch hr),bT _,bT _,bT _,⟨0,rfl,by decide⟩,h2⟩
theorem aBV{v:aI}{n c:Nat}(h:pJ n c v.c){i r:Int}:jl v.c i r=Ir (Rn v i r):=(aCp (fS h).1 i r).symm
theorem aBK{v:aI}{n c:Nat}(h:pJ n c v.c){i:Int}:Nr v.c i=Ir (ar v i):=(aBG (fS h).1 i).symm
theorem zy{o:Option Int}{c:Int}(h1:o.isSome=true)(h2:o.getD 0=c):o=some c:=by
 cases o with
 | none=>cases h1
 | some v=>exact congrArg some h2
theorem oh{o:Option Int}{c:Int}(h1:o.isSome=false):¬o=some c:=λ h=>by rw[h] at h1;cases h1
theorem se{o:Option Int}{c:Int}(h1:o.getD 0≠c):¬o=some c:=λ h=>by rw[h] at h1;exact h1 rfl
section
variable{k:Cl}{bx bm:Nat}{x:XS}{dn:Bool}{rs:Rs}{D:List Nat}{A:Fr}{w:World}{g:Gx}
theorem n8(hg:g.Ok)(t:iS)(i c index:Int)(K:Int->Tr)(ht:t.root<=9223372036854775807)(hi:i<=x.L.length)(hc:c<=x.L.length)(hA:∀f∈bD x.L,f∈A)(go:gS g x (Mo t i c index K))(ok:x.Ok)(hs:SF w D (xH k bx bm x dn rs) A [] (xW x) w):Calls Tryz.prog 86 #[.pointer (some ⟨bx,0,none⟩),N3 t,.int .i64 i,.int .i64 c,.int .i64 index] w λ e w'=>∃q:Int×XS×List aI,e=.returned (.int .i64 q.1)/\Nx g x q.2.1 q.2.2 (K q.1) q.1/\SF w D (xH k bx bm q.2.1 dn rs) [] (bD q.2.2) (xW q.2.1) w':=by
 refine enter Tryz.func86 Tryz.ntmps86 rfl rfl (cL hs) ?_;simp only[cP]
 simp only[N3]
 refine J0 ?_;refine bF (λ x6=>?_);refine vE ?_;refine aD (cM (hs:=xH k bx bm x dn rs) (os:=xW x) (hc:=λ w hs=>cW c _ hc go ok hs)) (λ x18 h18=>?_);refine aB ?_;refine aS (cV (hc:=λ w1 hw=>I5 (v:=aA x.L c) (ok.nv c) index (ok.sR hw hA c))) (λ x20=>?_);refine K0d ?_;refine J8 ?_;refine Kd2 ?_;refine aB ?_;refine aD (cM (hs:=xH k bx bm x dn rs) (os:=xW x) (hc:=λ w hs=>oU hg t ((mU (aA x.L c).c index).getD 0) _ ht (qL (ok.nv c) index) h18.1 ok hs)) (λ x26 h26=>?_);refine vE ?_;refine aB ?_;refine aD (cM (hs:=xH k bx bm x26.2.1 dn rs) (os:=xW x26.2.1) (hc:=λ w hs=>cW i _ (by have:=h26.len;omega) h26.go h26.ok hs)) (λ x30 h30=>?_);refine cJ ?_;refine bQ ?_;refine aB ?_;refine aD (cM (hs:=xH k bx bm x26.2.1 dn rs) (os:=xW x26.2.1) (A0:=[(none,aH []),(none,dK [])]) (hc:=λ w hs=>iD hg (n:={Nd.zero with kind:=2,gen:=(aA x26.2.1.L i).nd.gen}) (xs:=[]) (ys:=[]) x26.1 _ rfl rfl (by decide) (Nat.zero_le _) sH h26.bd h30.1 h26.ok hs)) (λ x34 h34=>?_);have hch:=Ch.nx h34 ((Ch.base (F:=[])).nx h26);refine gX ?_;refine aV ?_;refine dZ [(0,[]),(1,[]),(2,[]),(3,[]),(4,[]),(5,[]),(6,[]),(7,[]),(8,[1]),(9,[])] ?_;refine Kb7 ?_;refine iJ ?_;refine iJ ?_;refine iJ ?_;refine bL (i:=8) (hq:=(cM (hs:=xH k bx bm x34.2.1 dn rs) (os:=xW x34.2.1) (A0:=bD x34.2.1.L) (hA:=Ch.all hch hA) (hc:=λ w hs=>Cs hg c index x34.1 _ (by have:=h26.len;have:=h34.len;omega) h34.bd (λ f hf=>hf) h34.go h34.ok hs))) (h:=λ x43 h43=>?_);refine bL (i:=9) (hq:=(cM (hs:=xH k bx bm x43.2.1 dn rs) (os:=xW x43.2.1) (hc:=λ w hs=>tX hg t i c x43.1 _ ht (by have:=h26.len;have:=h34.len;have:=h43.len;omega) h43.bd h43.go h43.ok hs))) (h:=λ x44 h44=>?_);have hch2:=Ch.nx h44 (Ch.nx h43 hch);have hlc:x.cs.length<=x44.2.1.cs.length:=by have:=h26.lc;have:=h34.lc;have:=h43.lc;have:=h44.lc;omega
 refine dJ ?_;refine bA (λ c44=>?_) (λ c44=>?_)
 ·refine Ka5 ?_;refine aR Tryz.results86 (λ w hw=>?_);obtain⟨N,hN,hf⟩:=hch2.to h44 (h44.go.to (t':=K x34.1) (λ _=>by rw[if_pos (by assumption)])) hlc (show x34.1<=_ by have:=h34.bd;have:=h43.len;have:=h44.len;omega)
  exact⟨(x34.1,x44.2.1,N),rfl,hN,(hw.fN hf).zA0⟩
 ·refine bB ?_;refine cR ?_;refine aR Tryz.results86 (λ w hw=>?_);obtain⟨N,hN,hf⟩:=hch2.to h44 (h44.go.to (t':=K 0) (λ _=>by rw[if_neg (by simp only[Bool.not_eq_true];assumption)])) hlc (show(0:Int)<=_ from bT _)
  exact⟨(0,x44.2.1,N),rfl,hN,(hw.fN hf).zA0⟩
end
end

/- Views: the root of a trie, the main node of an I-node. -/
end Go.Proofs.YtadnboagdhcedaaGreatDoor
namespace Go.Ct
section
open Go Go.RowKit
theorem eP.lB{L:List aI}{cs:List Int}{pn pc:Option Addr}{w w0:World}{M:List Nat}{H:List (Nat×Obj)}{F:Fr}{O:List Ow}(h:eP w0 L cs pn pc)(hw:SF w0 M H ((pn,fX L)::(pc,aH cs)::bD L) F O w):eP w L cs pn pc:=hw.kB (.inr (.inl (.head _))) (.inr (.inl (.tail _ (.head _)))) (λ f hf=>.inr (.inl (.tail _ (.tail _ hf)))) h.fit
theorem bG(L:List aI)(r:Int):bH (L.map aI.c) r=(aA L r).c:=(Lo L r).symm
end
end Go.Ct
namespace Go.Proofs.YtadnboagdhcedaaGreatDoor
section
open Go Go.RowKit Go.Ct
section
variable{L:List aI}{cs:List Int}{gen:Int}{pn pc:Option Addr}{cn cc:Nat}{w:World}
abbrev iF(L:List aI)(cs:List Int)(gen:Int)(pn:Option Addr)(cn:Nat)(pc:Option Addr)(cc:Nat):Value:=.agg ⟨[.slice pn L.length cn,.slice pc cs.length cc,.int .i64 gen]⟩
theorem xf(h:eP w L cs pn pc)(r:Int)(hr:r<1):Calls Tryz.prog 70 #[iF L cs gen pn cn pc cc,.int .i64 r] w λ e w'=>e=.returned (aA L r).nd.v/\St w [] [] w':=by
 refine enter Tryz.func70 Tryz.ntmps70 rfl rfl h.start ?_;simp only[cP]
 refine K0u ?_;intro x2;refine K2a ?_;intro x4;(refine eM 7 (λ g7=>?_) (λ g7=>?_)<;>(try (exfalso;omega))<;>(refine aJ ?_));refine Ke8 ?_;refine bA (λ c13=>?_) (λ c13=>?_)
 ·try (exfalso;omega)
  refine Ke0 ?_;refine bK Tryz.results70 (λ w hw=>?_);exact⟨by rw[rV (by omega)];rfl,hw.done⟩
 ·exact nv c13
theorem aAF(h:eP w L cs pn pc){k:Nat}(hk:(k:Int)<9223372036854775807)(hl:L.length<=274877906944):Calls Tryz.prog 70 #[iF L cs gen pn cn pc cc,.int .i64 ((k+1:Nat):Int)] w λ e w'=>e=.returned (aA L ((k+1:Nat):Int)).nd.v/\St w [] [] w':=by
 refine enter Tryz.func70 Tryz.ntmps70 rfl rfl h.start ?_;simp only[cP]
 refine K0u ?_;intro x2;refine K2a ?_;intro x4;(refine Ka4 ?_);refine Ke8 ?_;refine bA (λ c13=>?_) (λ c13=>?_)
 ·try (exfalso;omega)
  refine Ke0 ?_;refine bK Tryz.results70 (λ w hw=>?_);(exact⟨by rw[rV (by omega)];rfl,hw.done⟩)
 ·try (exfalso;omega)
  refine bB ?_;refine Ka9 ?_;refine oQ ?_;refine Pb ?_;refine J5 ?_;refine bK Tryz.results70 (λ w hw=>?_);(exact⟨by rw[fG (by omega)];rfl,hw.done⟩)
theorem uG(h:eP w L cs pn pc)(r:Int)(hr:r<=9223372036854775807)(hl:L.length<=274877906944):Calls Tryz.prog 70 #[iF L cs gen pn cn pc cc,.int .i64 r] w λ e w'=>e=.returned (aA L r).nd.v/\St w [] [] w':=by
 rcases Int.lt_or_le r 1 with h1|h1
 ·exact xf h r h1
 ·obtain⟨k,rfl⟩:∃k:Nat,r=((k+1:Nat):Int):=⟨(r-1).toNat,by omega⟩
  exact aAF h (by omega) hl
theorem ba(h:eP w L cs pn pc)(r:Int)(hr:r<1):Calls Tryz.prog 69 #[iF L cs gen pn cn pc cc,.int .i64 r] w λ e w'=>e=.returned (.int .i64 (bV cs r))/\St w [] [] w':=by
 refine enter Tryz.func69 Tryz.ntmps69 rfl rfl h.start ?_;simp only[cP]
 refine K0u ?_;intro x2;refine Ke4 ?_;refine zB ?_;(refine eM 7 (λ g7=>?_) (λ g7=>?_)<;>(try (exfalso;omega))<;>(refine aJ ?_));refine Ke8 ?_;refine bA (λ c13=>?_) (λ c13=>?_)
 ·try (exfalso;omega)
  refine cR ?_;refine aR Tryz.results69 (λ w hw=>?_);exact⟨by rw[sB (by omega)];rfl,hw.done⟩
 ·exact nv c13
theorem de(h:eP w L cs pn pc){k:Nat}(hk:(k:Int)<9223372036854775807)(hl:cs.length<=274877906944):Calls Tryz.prog 69 #[iF L cs gen pn cn pc cc,.int .i64 ((k+1:Nat):Int)] w λ e w'=>e=.returned (.int .i64 (bV cs ((k+1:Nat):Int)))/\St w [] [] w':=by
 refine enter Tryz.func69 Tryz.ntmps69 rfl rfl h.start ?_;simp only[cP]
 refine K0u ?_;intro x2;refine Ke4 ?_;refine zB ?_;(refine Ka4 ?_);refine Ke8 ?_;refine bA (λ c13=>?_) (λ c13=>?_)
 ·try (exfalso;omega)
  refine cR ?_;refine aR Tryz.results69 (λ w hw=>?_);(exact⟨by rw[sB (by omega)];rfl,hw.done⟩)
 ·try (exfalso;omega)
  refine bB ?_;refine Ka9 ?_;refine oQ ?_;refine Pb ?_;refine J1 ?_;refine aR Tryz.results69 (λ w hw=>?_);(exact⟨by rw[rX (by omega)];rfl,hw.done⟩)
theorem Ev(h:eP w L cs pn pc)(r:Int)(hr:r<=9223372036854775807)(hl:cs.length<=274877906944):Calls Tryz.prog 69 #[iF L cs gen pn cn pc cc,.int .i64 r] w λ e w'=>e=.returned (.int .i64 (bV cs r))/\St w [] [] w':=by
 rcases Int.lt_or_le r 1 with h1|h1
 ·exact ba h r h1
 ·obtain⟨k,rfl⟩:∃k:Nat,r=((k+1:Nat):Int):=⟨(r-1).toNat,by omega⟩
  exact de h (by omega) hl
structure mj(L:List aI)(cs:List Int):Prop where
 cs:∀c,bV cs c<=9223372036854775807
 bO:∀r,(aA L r).nd.bO<=9223372036854775807
 new:∀r,(aA L r).nd.new<=9223372036854775807
 main:∀r,(aA L r).nd.main<=9223372036854775807
 prev:∀r,(aA L r).nd.prev<=9223372036854775807
 status:∀r,(aA L r).nd.status<=9223372036854775807
 br:∀r,∀b∈(aA L r).xs,b<=9223372036854775807
theorem sf(h:eP w L cs pn pc)(hb:mj L cs)(hl:L.length<=274877906944)(hc:cs.length<=274877906944)(i:Int)(hi:i<=9223372036854775807):Calls Tryz.prog 95 #[iF L cs gen pn cn pc cc,.int .i64 i] w λ e w'=>e=.returned (.tuple #[.int .i64 ((dB (L.map aI.c) cs i).getD 0),.bool (dB (L.map aI.c) cs i).isSome])/\St w [] [] w':=by
 refine enter Tryz.func95 Tryz.ntmps95 rfl rfl h.start ?_;simp only[cP]
 simp only[iF]
 refine K0u ?_;intro x2;refine J8 ?_;refine vP ?_;refine aS (cV (hc:=λ w1 hw=>uG (h.lB hw) i hi hl)) (λ x12=>?_);refine aT (λ x6=>?_);refine Ke6 ?_;refine Ka7 ?_;refine bA (λ c15=>?_) (λ c15=>?_)
 ·refine Aw ?_;refine bK Tryz.results95 (λ w hw=>?_);refine⟨?_,hw.done⟩;unfold dB jU hX kC;simp only[bG,cC,aI.c,Nd.c]
  simp_all
  rfl
 ·refine bB ?_;refine iH ?_;refine J3 ?_;refine aS (cV (hc:=λ w1 hw=>Ev (h.lB hw) (aA L i).nd.main (hb.main i) hc)) (λ x19=>?_);refine gX ?_;refine vP ?_;refine aS (cV (hc:=λ w1 hw=>uG (h.lB hw) (bV cs (aA L i).nd.main) (hb.cs _) hl)) (λ x22=>?_);refine aD (c0 (V:=.bool) (hc:=λ w1 hw=>Cr _ w1)) (λ x23 h23=>?_);refine lA ?_;refine bA (λ c24=>?_) (λ c24=>?_)
  ·refine Aw ?_;refine bK Tryz.results95 (λ w hw=>?_);refine⟨?_,hw.done⟩;unfold dB jU hX kC;simp only[bG,cC,aI.c,Nd.c]
   simp_all
   rfl
  ·refine K1p ?_;refine cA (i:=3) (hq:=(cV (hc:=λ w1 hw=>uG (h.lB hw) (bV cs (aA L i).nd.main) (hb.cs _) hl))) (h:=λ x28=>?_);refine lO ?_;refine cA (i:=5) (hq:=(cV (hc:=λ w1 hw=>Ev (h.lB hw) (aA L (bV cs (aA L i).nd.main)).nd.prev (hb.prev _) hc))) (h:=λ x30=>?_);refine J7 ?_;refine jL ?_;refine rW ?_;refine bA (λ c32=>?_) (λ c32=>?_)
   ·refine J2 ?_;refine J8 ?_;refine bK Tryz.results95 (λ w hw=>?_);refine⟨?_,hw.done⟩;unfold dB jU hX kC;simp only[bG,cC,aI.c,Nd.c]
    simp_all
    rfl
   ·refine jH ?_;refine vP ?_;refine aS (cV (hc:=λ w1 hw=>uG (h.lB hw) (bV cs (aA L (bV cs (aA L i).nd.main)).nd.prev) (hb.cs _) hl)) (λ x36=>?_);refine aT (λ x9=>?_);refine J5 ?_;refine gH ?_;refine rW ?_;refine bA (λ c39=>?_) (λ c39=>?_)
    ·refine dM ?_;refine J3 ?_;refine gX ?_;refine vP ?_;refine aS (cV (hc:=λ w1 hw=>uG (h.lB hw) _ (by exact hb.bO _) hl)) (λ x44=>?_);refine aD (c0 (V:=.bool) (hc:=λ w1 hw=>Cr _ w1)) (λ x45 h45=>?_);refine lA ?_;refine bA (λ c46=>?_) (λ c46=>?_)
     ·refine Aw ?_;refine bK Tryz.results95 (λ w hw=>?_);refine⟨?_,hw.done⟩;unfold dB jU hX kC;simp only[bG,cC,aI.c,Nd.c]
      simp_all
      rfl
     ·refine Ke9 ?_;refine bK Tryz.results95 (λ w hw=>?_);refine⟨?_,hw.done⟩;unfold dB jU hX kC;simp only[bG,cC,aI.c,Nd.c]
      simp_all
      rfl
    ·refine jH ?_;refine vP ?_;refine aS (cV (hc:=λ w1 hw=>uG (h.lB hw) _ (by exact hb.cs _) hl)) (λ x44=>?_);refine aD (c0 (V:=.bool) (hc:=λ w1 hw=>Cr _ w1)) (λ x45 h45=>?_);refine lA ?_;refine bA (λ c46=>?_) (λ c46=>?_)
     ·refine Aw ?_;refine bK Tryz.results95 (λ w hw=>?_);refine⟨?_,hw.done⟩;unfold dB jU hX kC;simp only[bG,cC,aI.c,Nd.c]
      simp_all
      rfl
     ·refine Ke9 ?_;refine bK Tryz.results95 (λ w hw=>?_);refine⟨?_,hw.done⟩;unfold dB jU hX kC;simp only[bG,cC,aI.c,Nd.c]
      simp_all
      rfl
end
end

/- The program's shape, part 1: nodes, main nodes. -/
section
open Go Go.RowKit Go.Ct
section
variable{L:List aI}{cs:List Int}{gen:Int}{m:Nat}{pn pc:Option Addr}{cn cc:Nat}{w:World}{D:List Nat}{b:Nat}
abbrev lJ(L:List aI)(cs:List Int)(gen:Int)(m:Nat)(pn:Option Addr)(cn:Nat)(pc:Option Addr)(cc:Nat):Obj:=.cells ⟨[.slice pn L.length cn,.slice pc cs.length cc,.int .i64 gen,.int .u64 ((m:Nat):Int)]⟩ 87 (0,0)
abbrev yO(L:List aI)(cs:List Int)(pn pc:Option Addr):Fr:=(pn,fX L)::(pc,aH cs)::(some ⟨0,0,none⟩,oH jB)::bD L
theorem lI(hs:SF w D [(b,lJ L cs gen m pn cn pc cc)] (yO L cs pn pc) [] [] w){k:Nat}(hk:k<L.length)(hl:L.length<=274877906944):Calls Tryz.prog 36 #[.pointer (some ⟨b,0,none⟩),.int .i64 ((k+1:Nat):Int)] w λ e w'=>∃q:Unit,e=.returned (aA L ((k+1:Nat):Int)).nd.v/\True/\SF w D [(b,lJ L cs gen m pn cn pc cc)] [] [] [] w':=by
 refine enter Tryz.func36 Tryz.ntmps36 rfl rfl hs ?_;simp only[cP]
 refine J0 ?_;refine aT (λ x4=>?_);refine aK ?_;refine Ii ?_;refine J3 ?_;refine aB ?_;refine oQ ?_;refine Pb ?_;refine J5 ?_;refine bK Tryz.results36 (λ w hw=>?_);exact⟨(),by rw[fG (by omega)];rfl,trivial,hw.aQ⟩
def MnO(L:List aI)(cs:List Int)(v:Nd)(r:Nat):Prop:=∃c k p:Nat,v.main=((c+1:Nat):Int)/\c<cs.length/\cs.getD c 0=((k+1:Nat):Int)/\k<L.length/\(aA L ((k+1:Nat):Int)).nd.prev=((p+1:Nat):Int)/\p<cs.length /\
 ((cs.getD p 0=0/\r=k)∨∃q:Nat,cs.getD p 0=((q+1:Nat):Int)/\q<L.length/\(((aA L ((q+1:Nat):Int)).nd.kind=7/\(aA L ((q+1:Nat):Int)).nd.bO=((r+1:Nat):Int))∨((aA L ((q+1:Nat):Int)).nd.kind≠7/\r=q)))
set_option maxRecDepth 100000 in
theorem Bz(hs:SF w D [(b,lJ L cs gen m pn cn pc cc)] (yO L cs pn pc) [] [] w){v:Nd}{r:Nat}(ho:MnO L cs v r)(hr:r<L.length)(hl:L.length<=274877906944)(hc:cs.length<=274877906944):Calls Tryz.prog 38 #[.pointer (some ⟨b,0,none⟩),v.v] w λ e w'=>∃q:Unit,e=.returned (aA L ((r+1:Nat):Int)).nd.v/\True/\SF w D [(b,lJ L cs gen m pn cn pc cc)] [] [] [] w':=by
  obtain⟨c,k,p,hv,hc1,e1,hk,e2,hp,h3⟩:=ho
  refine enter Tryz.func38 Tryz.ntmps38 rfl rfl hs ?_;simp only[cP]
  simp only[Nd.v,Nd.cells]
  refine K1r ?_;intro x3;refine aT (λ x4=>?_);refine Vy ?_;refine eN [5,8,9,10,11,12,13,14,15,16,17,18,19] (λ j:Nat=>[(5,.pointer (some ⟨j,0,none⟩))]) (λ _=>True) (λ j=>[(j,.cells ⟨(aA L ((k+1:Nat):Int)).nd.cells⟩ 77 (0,0)),(x4,.cells ⟨Nd.zero.cells⟩ 77 (0,0)),(x3,.cells ⟨v.cells⟩ 77 (0,0)),(b,lJ L cs gen m pn cn pc cc)]) (λ _=>[]) (λ _=>[]) (by decide) (λ _=>by exact rfl) ?_ (λ j f hx=>?_)
  · refine fY (.one 0 [] (.one 1 [] (.one 2 [] (.one 3 [] (.one 4 [] (.one 5 [] (.one 6 [] (.one 7 [] (.one 8 [] (.one 9 [] (.one 10 [] (.two 11 [] (.one 12 [5,7,9,10] (.one 13 [] .nil)) 0 [] (.two 12 [5,7,9,10] (.one 11 [] (.one 13 [] .nil)) 0 [] .nil))))))))))))) ?_;refine aL ?_;refine wC ?_;refine iT ?_;refine qK ?_;refine bJ (i:=9) (hq:=(bE (k:=c) rf (by rw[show((c:Nat):Int)=v.main-1 by omega];exact rfl) eC wn (.bO (.tail .head)) hc1 hc1)) (h:=?_);refine bJ (i:=10) (hq:=(bP (lst:=cs) (q:=c) rf wn (.bO (.tail .head)) hc1)) (h:=?_);refine fV (E:=[11,12]) (by decide +kernel) ((.cons ?_ (.cons ?_ .nil)))
    · refine mI (i:=11) (hq:=(cM (V:=λ _:Unit=>(aA L ((k+1:Nat):Int)).nd.v) (hs:=[(b,lJ L cs gen m pn cn pc cc)]) (os:=[]) (hs':=λ _=>[(b,lJ L cs gen m pn cn pc cc)]) (os':=λ _=>[]) (Fc:=λ _=>[]) (A0:=yO L cs pn pc) (hA:=bU.of λ f hf=>.inr (.inl hf)) (hc:=λ w1 hw=>by rw[e1];exact lI hw hk hl))) (h:=λ x19 h19=>?_);refine gG (hfire:=(λ _=>by((repeat (first|exact aG.nil|refine aG.cons (by first|exact bY|exact cG (hq:=bE (k:=c) rf (by rw[show((c:Nat):Int)=v.main-1 by omega];exact rfl) eC wn (.bO (.tail .head)) hc1 hc1)) ?_));done))) (h:=λ x5=>?_);refine vF ?_;refine eQ (x5) ?_ (hw1:=λ w hw=>hw)
      · trivial
    · refine gW (i:=12) (hfire:=(λ _=>by((repeat (first|exact aG.nil|refine aG.cons (by first|exact bY|exact cG (hq:=bE (k:=c) rf (by rw[show((c:Nat):Int)=v.main-1 by omega];exact rfl) eC wn (.bO (.tail .head)) hc1 hc1)) ?_));done))) (h:=λ x5=>?_);refine bL (i:=11) (hq:=(cM (V:=λ _:Unit=>(aA L ((k+1:Nat):Int)).nd.v) (hs:=[(b,lJ L cs gen m pn cn pc cc)]) (os:=[]) (hs':=λ _=>[(b,lJ L cs gen m pn cn pc cc)]) (os':=λ _=>[]) (Fc:=λ _=>[]) (A0:=yO L cs pn pc) (hA:=bU.of λ f hf=>.inr (.inl hf)) (hc:=λ w1 hw=>by rw[e1];exact lI hw hk hl))) (h:=λ x19 h19=>?_);refine vF ?_;refine eQ (x5) ?_ (hw1:=λ w hw=>hw)
      · trivial
  refine K0a ?_;refine aV ?_;refine gP [0,1,2,3,4,5,6,7,8,9,10] ?_;refine wC ?_;refine iT ?_;refine qK ?_;refine bJ (i:=8) (hq:=(bE (k:=p) rf (by rw[show((p:Nat):Int)=(aA L ((k+1:Nat):Int)).nd.prev-1 by omega];exact rfl) eC wn (.bO (.tail .head)) hp hp)) (h:=?_);refine bJ (i:=9) (hq:=(bP (lst:=cs) (q:=p) rf wn (.bO (.tail .head)) hp)) (h:=?_);refine J7 ?_;refine jL ?_;refine rW ?_;refine bA (λ c31=>?_) (λ c31=>?_)
  · try (exfalso;omega)
    have hrk:r=k:=by
     rcases h3 with⟨_,h⟩|⟨q,h,_⟩
     · exact h
     · omega
    refine Kb5 ?_;refine bK Tryz.results38 (λ w hw=>?_);first
    | (subst hrk;exact⟨(),rfl,trivial,hw.aQ⟩)
    | (subst hrq;exact⟨(),rfl,trivial,hw.aQ⟩)
    | exact⟨(),rfl,trivial,hw.aQ⟩
  · try (exfalso;omega)
    obtain⟨q,hq,hql,h4⟩:=h3.resolve_left (λ h=>c31 h.1)
    refine Cg ?_;refine aD (cM (V:=λ _:Unit=>(aA L ((q+1:Nat):Int)).nd.v) (hs:=[(b,lJ L cs gen m pn cn pc cc)]) (os:=[]) (hs':=λ _=>[(b,lJ L cs gen m pn cn pc cc)]) (os':=λ _=>[]) (Fc:=λ _=>[]) (A0:=yO L cs pn pc) (hA:=bU.of λ f hf=>.inr (.inl hf)) (hc:=λ w1 hw=>by rw[hq];exact lI hw hql hl)) (λ x35 h35=>?_);refine aT (λ x7=>?_);refine Ke6 ?_;refine rW ?_;refine bA (λ c38=>?_) (λ c38=>?_)
    · try (exfalso;omega)
      have hold:=(h4.resolve_right (λ h=>h.1 c38)).2;refine J2 ?_;refine J3 ?_;refine aD (cM (V:=λ _:Unit=>(aA L ((r+1:Nat):Int)).nd.v) (hs:=[(b,lJ L cs gen m pn cn pc cc)]) (os:=[]) (hs':=λ _=>[(b,lJ L cs gen m pn cn pc cc)]) (os':=λ _=>[]) (Fc:=λ _=>[]) (A0:=yO L cs pn pc) (hA:=bU.of λ f hf=>.inr (.inl hf)) (hc:=λ w1 hw=>by rw[hold];exact lI hw hr hl)) (λ x42 h42=>?_);refine J5 ?_;refine bK Tryz.results38 (λ w hw=>?_);first
      | (subst hrk;exact⟨(),rfl,trivial,hw.aQ⟩)
      | (subst hrq;exact⟨(),rfl,trivial,hw.aQ⟩)
      | exact⟨(),rfl,trivial,hw.aQ⟩
    · try (exfalso;omega)
      have hrq:=(h4.resolve_left (λ h=>c38 h.1)).2;refine bB ?_;refine Kb5 ?_;refine bK Tryz.results38 (λ w hw=>?_);first
      | (subst hrk;exact⟨(),rfl,trivial,hw.aQ⟩)
      | (subst hrq;exact⟨(),rfl,trivial,hw.aQ⟩)
      | exact⟨(),rfl,trivial,hw.aQ⟩
end
end

end Go.Proofs.YtadnboagdhcedaaGreatDoor
