/- Executions of the reference: cells, generations. -/
import Derived.Test.YtadnboagdhcedaaGreatDoorGEx1

set_option linter.unusedSimpArgs false
set_option linter.unusedVariables false
namespace Go.Proofs.YtadnboagdhcedaaGreatDoor
section
open Go Go.RowKit Go.Ct
theorem P5:dS Tryz.prog 27=some (.int .i64 0):=by kernel_rfl
theorem Hk:dY Tryz.prog 111 27 [.int .i64 0]:=mS (by kernel_rfl) P5 rfl
section
variable{k:Cl}{bx bm:Nat}{x:XS}{dn:Bool}{rs:Rs}{D:List Nat}{A:Fr}{w:World}
theorem p9(i:Int)(h:x.st=true)(hs:SF w D (xH k bx bm x dn rs) A [] (xW x) w):Calls Tryz.prog 126 #[.pointer (some ⟨bx,0,none⟩),.int .i64 i] w λ e w'=>∃q:Unit,e=.returned (.int .i64 0)/\True/\SF w D (xH k bx bm x dn rs) [] [] (xW x) w':=by
 refine enter Tryz.func126 Tryz.ntmps126 rfl rfl (cL hs) ?_;simp only[cP]
 refine D6 ?_;refine Kd8 ?_;refine bA (λ c8=>?_) (λ c8=>?_)
 ·refine cR ?_;refine aR Tryz.results126 (λ w hw=>?_);exact⟨(),rfl,trivial,hw.aQ⟩
 ·exact absurd (h.symm.trans c8) (by decide)
theorem Ho(i:Int)(h:x.st=false)(h1:x.c<x.cel.length)(hl:x.cel.length<=274877906944)(hs:SF w D (xH k bx bm x dn rs) A [] (xW x) w):Calls Tryz.prog 126 #[.pointer (some ⟨bx,0,none⟩),.int .i64 i] w λ e w'=>∃q:Unit,e=.returned (.int .i64 (x.cel.getD x.c 0))/\True/\SF w D (xH k bx bm {x with c:=x.c+1} dn rs) [] [] (xW {x with c:=x.c+1}) w':=by
 refine enter Tryz.func126 Tryz.ntmps126 rfl rfl (cL hs) ?_;simp only[cP]
 refine D6 ?_;refine Kd8 ?_;refine bA (λ c8=>?_) (λ c8=>?_)
 ·try (exfalso;omega)
  exact absurd (h.symm.trans c8) (by decide)
 ·try (exfalso;omega)
  refine K0p ?_;refine bA (λ c18=>?_) (λ c18=>?_)
  ·try (exfalso;omega)
  ·try (exfalso;omega)
   refine J83 ?_;refine aE (lT (m:=x.c) (n:=1) rf rf (by omega)) rfl ?_;refine Ns ?_;refine eJ (by exact jI λ _=>bZ rf dI wn rf dC rf rf jX) (λ _=>?_);refine Vy ?_;refine K1b ?_;refine cS (i:=8) (hq:=(kF (m:=x.c+1) (n:=1) rf rf (by omega) (by omega))) (h:=?_);refine bJ (i:=9) (hq:=(bE (m:=x.cel.length) (k:=x.c+1-1) (lst:=x.cel) rf rf eC dC (.own (.tail (.tail .head))) (by omega) (by omega))) (h:=?_);refine bJ (i:=10) (hq:=(bP (q:=x.c+1-1) (lst:=x.cel) rf dC (.own (.tail (.tail .head))) (by omega))) (h:=?_);refine J7 ?_;refine aR Tryz.results126 (λ w hw=>?_);exact⟨(),by rw[Nat.add_sub_cancel];rfl,trivial,hw.aQ⟩
theorem fw(i:Int)(h:x.st=false)(h1:x.c=x.cel.length)(hl:x.cel.length<=137438953472)(hcl:x.cs.length<=274877906900)(hs:SF w D (xH k bx bm x dn rs) A [] (xW x) w):Calls Tryz.prog 126 #[.pointer (some ⟨bx,0,none⟩),.int .i64 i] w λ e w'=>∃q:(Option Addr×Nat)×(Option Addr×Nat),e=.returned (.int .i64 ((x.cs.length+1:Nat):Int))/\True /\
   SF w D (xH k bx bm {x with cs:=x.cs++[i],pc:=q.1.1,cc:=q.1.2,cel:=x.cel++[((x.cs.length+1:Nat):Int)],pl:=q.2.1,kl:=q.2.2,c:=x.c+1} dn rs) [] [] (xW {x with cs:=x.cs++[i],pc:=q.1.1,cc:=q.1.2,cel:=x.cel++[((x.cs.length+1:Nat):Int)],pl:=q.2.1,kl:=q.2.2,c:=x.c+1}) w':=by
 refine enter Tryz.func126 Tryz.ntmps126 rfl rfl (cL hs) ?_;simp only[cP]
 refine D6 ?_;refine Kd8 ?_;refine bA (λ c8=>?_) (λ c8=>?_)
 ·try (exfalso;omega)
  exact absurd (h.symm.trans c8) (by decide)
 ·try (exfalso;omega)
  refine K0p ?_;refine bA (λ c18=>?_) (λ c18=>?_)
  ·try (exfalso;omega)
   refine dZ [(0,[]),(1,[]),(2,[]),(3,[]),(4,[]),(5,[]),(6,[]),(7,[]),(8,[]),(9,[]),(10,[4]),(11,[4]),(12,[]),(13,[]),(14,[]),(15,[])] ?_;refine aL ?_;refine Er ?_;refine aL ?_;refine bL (i:=10) (hq:=(cM (hc:=λ w hs=>kH (L:=x.L) (cs:=x.cs) i hs (by omega)))) (h:=λ x29 h29=>?_);refine cA (i:=11) (hq:=((by exact Fv (λ _=>cX (cs:=aH [((x.cs.length+1:Nat):Int)]) Hk Ih rfl rfl rfl rfl rfl)))) (h:=λ x30=>?_);((refine cA (i:=12) (hq:=(aX.gA (tE (l:=x.cel) (m:=x.cel.length) rf rf (.tail (.tail .head)) rfl fin (by exact Hk) eC (by omega)) fM)) (h:=λ x31=>?_);try (refine dO (λ h31=>?_))));refine J4 ?_;refine kW (i:=15) (hq:=(by exact jI λ _=>bZ rf dI wn rf dC rf rf jX)) (h:=λ _=>?_);refine dJ ?_;refine oR ?_;refine aE (lT (m:=x.c) (n:=1) rf rf (by omega)) rfl ?_;refine Ns ?_;refine eJ (by exact jI λ _=>bZ rf dI wn rf dC rf rf jX) (λ _=>?_);refine Vy ?_;refine K1b ?_;refine cS (i:=8) (hq:=(kF (m:=x.c+1) (n:=1) rf rf (by omega) (by omega))) (h:=?_);refine bJ (i:=9) (hq:=(bE (m:=x.cel.length+1) (k:=x.c+1-1) rf rf eC dC (.own (.tail (.tail .head))) (by omega) (by rw[List.length_append,List.length_cons,List.length_nil];omega))) (h:=?_);refine bJ (i:=10) (hq:=(bP (q:=x.c+1-1) rf dC (.own (.tail (.tail .head))) (by rw[List.length_append,List.length_cons,List.length_nil];omega))) (h:=?_);refine J7 ?_;refine aR Tryz.results126 (λ w hw=>?_);rw[show x.cel.length+1=(x.cel++[((x.cs.length+1:Nat):Int)]).length by simp] at hw;exact⟨(x29,x31),by rw[show x.c+1-1=x.cel.length by omega,sI];rfl,trivial,hw.aQ⟩
  ·try (exfalso;omega)
theorem xa(h:x.st=true)(hs:SF w D (xH k bx bm x dn rs) A [] (xW x) w):Calls Tryz.prog 128 #[.pointer (some ⟨bx,0,none⟩)] w λ e w'=>∃q:Unit,e=.returned (.int .i64 0)/\True/\SF w D (xH k bx bm x dn rs) [] [] (xW x) w':=by
 refine enter Tryz.func128 Tryz.ntmps128 rfl rfl (cL hs) ?_;simp only[cP]
 refine D6 ?_;refine Kd8 ?_;refine bA (λ c6=>?_) (λ c6=>?_)
 ·refine cR ?_;refine aR Tryz.results128 (λ w hw=>?_);exact⟨(),rfl,trivial,hw.aQ⟩
 ·exact absurd (h.symm.trans c6) (by decide)
theorem Kv(h:x.st=false)(h1:x.g<x.gns.length)(hl:x.gns.length<=274877906944)(hs:SF w D (xH k bx bm x dn rs) A [] (xW x) w):Calls Tryz.prog 128 #[.pointer (some ⟨bx,0,none⟩)] w λ e w'=>∃q:Unit,e=.returned (.int .i64 (x.gns.getD x.g 0))/\True/\SF w D (xH k bx bm {x with g:=x.g+1} dn rs) [] [] (xW {x with g:=x.g+1}) w':=by
 refine enter Tryz.func128 Tryz.ntmps128 rfl rfl (cL hs) ?_;simp only[cP]
 refine D6 ?_;refine Kd8 ?_;refine bA (λ c6=>?_) (λ c6=>?_)
 ·try (exfalso;omega)
  exact absurd (h.symm.trans c6) (by decide)
 ·try (exfalso;omega)
  refine K0p ?_;refine bA (λ c16=>?_) (λ c16=>?_)
  ·try (exfalso;omega)
  ·try (exfalso;omega)
   refine J83 ?_;refine aE (lT (m:=x.g) (n:=1) rf rf (by omega)) rfl ?_;refine Ns ?_;refine eJ (by exact jI λ _=>bZ rf dI wn rf dC rf rf jX) (λ _=>?_);refine Vy ?_;refine K1b ?_;refine cS (i:=8) (hq:=(kF (m:=x.g+1) (n:=1) rf rf (by omega) (by omega))) (h:=?_);refine bJ (i:=9) (hq:=(bE (m:=x.gns.length) (k:=x.g+1-1) (lst:=x.gns) rf rf eC dC (.own (.tail (.tail (.tail .head)))) (by omega) (by omega))) (h:=?_);refine bJ (i:=10) (hq:=(bP (q:=x.g+1-1) (lst:=x.gns) rf dC (.own (.tail (.tail (.tail .head)))) (by omega))) (h:=?_);refine J7 ?_;refine aR Tryz.results128 (λ w hw=>?_);exact⟨(),by rw[Nat.add_sub_cancel];rfl,trivial,hw.aQ⟩
theorem oi(h:x.st=false)(h1:x.g=x.gns.length)(hl:x.gns.length<=137438953472)(hgn : -1<=x.gen/\x.gen<=137438953600)(hs:SF w D (xH k bx bm x dn rs) A [] (xW x) w):Calls Tryz.prog 128 #[.pointer (some ⟨bx,0,none⟩)] w λ e w'=>∃q:Option Addr×Nat,e=.returned (.int .i64 (x.gen+1))/\True /\
   SF w D (xH k bx bm {x with gen:=x.gen+1,gns:=x.gns++[x.gen+1],pe:=q.1,ke:=q.2,g:=x.g+1} dn rs) [] [] (xW {x with gen:=x.gen+1,gns:=x.gns++[x.gen+1],pe:=q.1,ke:=q.2,g:=x.g+1}) w':=by
 have hup:up x.gen=x.gen+1:=wrap_i64 (by omega) (by omega);refine enter Tryz.func128 Tryz.ntmps128 rfl rfl (cL hs) ?_;simp only[cP]
 refine D6 ?_;refine Kd8 ?_;refine bA (λ c6=>?_) (λ c6=>?_)
 ·try (exfalso;omega)
  exact absurd (h.symm.trans c6) (by decide)
 ·try (exfalso;omega)
  refine K0p ?_;refine bA (λ c16=>?_) (λ c16=>?_)
  ·try (exfalso;omega)
   refine dZ [(0,[]),(1,[]),(2,[]),(3,[]),(4,[]),(5,[]),(6,[]),(7,[]),(8,[]),(9,[4]),(10,[4]),(11,[]),(12,[]),(13,[]),(14,[])] ?_;refine aL ?_;refine Er ?_;refine bL (i:=9) (hq:=(cM (hc:=λ w hs=>Jl (L:=x.L) (cs:=x.cs) (gen:=x.gen) hs))) (h:=λ x26 h26=>?_);refine dA (h:=λ x27=>?_);((refine cA (i:=11) (hq:=(aX.gA (tE (l:=x.gns) (m:=x.gns.length) rf rf (.tail (.tail (.tail .head))) rfl fin (by exact Hj) eC (by omega)) fM)) (h:=λ x28=>?_);try (refine dO (λ h28=>?_))));refine J4 ?_;refine kW (i:=14) (hq:=(by exact jI λ _=>bZ rf dI wn rf dC rf rf jX)) (h:=λ _=>?_);refine dJ ?_;refine oR ?_;refine aE (lT (m:=x.g) (n:=1) rf rf (by omega)) rfl ?_;refine Ns ?_;refine eJ (by exact jI λ _=>bZ rf dI wn rf dC rf rf jX) (λ _=>?_);refine Vy ?_;refine K1b ?_;refine cS (i:=8) (hq:=(kF (m:=x.g+1) (n:=1) rf rf (by omega) (by omega))) (h:=?_);refine bJ (i:=9) (hq:=(bE (m:=x.gns.length+1) (k:=x.g+1-1) rf rf eC dC (.own (.tail (.tail (.tail .head)))) (by omega) (by rw[List.length_append,List.length_cons,List.length_nil];omega))) (h:=?_);refine bJ (i:=10) (hq:=(bP (q:=x.g+1-1) rf dC (.own (.tail (.tail (.tail .head)))) (by rw[List.length_append,List.length_cons,List.length_nil];omega))) (h:=?_);refine J7 ?_;refine aR Tryz.results128 (λ w hw=>?_);rw[hup,show x.gns.length+1=(x.gns++[x.gen+1]).length by simp] at hw;exact⟨x28,by rw[show x.g+1-1=x.gns.length by omega,sI,hup];rfl,trivial,hw.aQ⟩
  ·try (exfalso;omega)
end
end

/- Executions of the reference: what the small methods do to the rest of the call. -/
end Go.Proofs.YtadnboagdhcedaaGreatDoor
namespace Go.Ct
section
open Go Go.RowKit
section
variable{g:Gx}{x:XS}{N:List aI}
theorem XS.Ok.vl(h:x.Ok){y:XS}(e1:y.L=x.L)(e2:y.cs=x.cs)(e3:y.got=x.got)(e4:y.made=x.made)(e5:y.cel=x.cel)(e6:y.gns=x.gns)(ha:y.a<=x.got.length)(hm:y.m<=x.made.length)(hc:y.c<=x.cel.length)(hg:y.g<=x.gns.length)(hf:y.fr<=1)(e7:y.gen=x.gen:=by rfl):y.Ok :=
 ⟨by rw[e1];exact h.fit,by rw[e1,e2];exact h.nd,by rw[e1,e2];exact h.cs,by rw[e1,e3];exact h.got,by rw[e1,e4];exact h.made,by rw[e1];exact h.two,by rw[e1];exact h.lL,by rw[e2];exact h.lc,by rw[e3];exact h.lg,by rw[e3];exact ha,by rw[e4];exact hm,by rw[e5];exact hc,by rw[e6];exact hg,hf,by rw[e1];exact h.ys,by rw[e7];exact h.gen0,by rw[e4];exact h.ms,by rw[e4];exact h.m1⟩
theorem Nx.st{t:Tr}(hs:x.st=true)(go:gS g x t)(ok:x.Ok){t':Tr}:Nx g x x [] t' 0:=⟨go.cB hs,ok,by simp,Nat.le_refl _,bT _⟩
theorem Nx.cU{x':XS}{t t':Tr}{b b':Int}(h:Nx g x x' N t b)(go:gS g x' t')(hb:b'<=x'.L.length):Nx g x x' N t' b':=⟨go,h.ok,h.ext,h.lc,hb⟩
theorem Nx.len{x':XS}{t:Tr}{b:Int}(h:Nx g x x' N t b):x.L.length<=x'.L.length:=by rw[h.ext,List.length_append];omega
theorem Nx.trans{x1 x2:XS}{N1 N2:List aI}{t1 t2:Tr}{b1 b2:Int}(h1:Nx g x x1 N1 t1 b1)(h2:Nx g x1 x2 N2 t2 b2):Nx g x x2 (N1++N2) t2 b2:=⟨h2.go,h2.ok,by rw[h2.ext,h1.ext,List.append_assoc],Nat.le_trans h1.lc h2.lc,h2.bd⟩
theorem Nx.ext'{x':XS}{t t':Tr}{b b':Int}(h:Nx g x x' (N++[]) t b)(go:gS g x' t')(hb:b'<=x'.L.length):Nx g x x' N t' b':=⟨go,h.ok,by have:=h.ext;rwa [List.append_nil] at this,h.lc,hb⟩
theorem Nx.start{t:Tr}(go:gS g x t)(ok:x.Ok):Nx g x x [] t 0:=⟨go,ok,by simp,Nat.le_refl _,bT _⟩
end
end
end Go.Ct
namespace Go.Proofs.YtadnboagdhcedaaGreatDoor
section
open Go Go.RowKit Go.Ct
section
variable{k:Cl}{bx bm:Nat}{x:XS}{dn:Bool}{rs:Rs}{D:List Nat}{A:Fr}{w:World}{g:Gx}
theorem qM(hg:g.Ok)(c:Int)(K:Int->Tr)(hc:c<=9223372036854775807)(go:gS g x (.load c K))(ok:x.Ok)(hs:SF w D (xH k bx bm x dn rs) A [] (xW x) w):Calls Tryz.prog 109 #[.pointer (some ⟨bx,0,none⟩),.int .i64 c] w λ e w'=>∃q:Int×XS,e=.returned (.int .i64 q.1)/\Nx g x q.2 [] (K q.1) q.1/\SF w D (xH k bx bm q.2 dn rs) [] [] (xW q.2) w':=by
 cases hst:x.st with
 | true=>exact(rn c ok hst hs).mono λ e w' ⟨_,q1,_,q3⟩=>⟨(0,x),q1,Nx.st hst go ok,q3⟩
 | false =>
  have hgd:=go.run hst;by_cases h1:x.a<x.got.length
  ·refine(Hr c ok hst h1 hs).mono λ e w' ⟨_,q1,_,q3⟩=>⟨(x.got.getD x.a 0,{x with a:=x.a+1}),q1,?_,q3⟩
   exact⟨.inl ⟨hst,hgd.Hr h1⟩,ok.vl rfl rfl rfl rfl rfl rfl h1 ok.lm ok.lk ok.le ok.fr,by simp,Nat.le_refl _,nV ok.got _⟩
  ·have hat:=hgd.ob h1;by_cases h2:x.fr=0
   ·refine(qm c ok hst h1 h2 hs).mono λ e w' ⟨_,q1,_,q3⟩=>⟨(0,{x with st:=true,nx:=⟨1,c,0,0⟩}),q1,?_,q3⟩;have hgo:gS g {x with st:=true,nx:=⟨1,c,0,0⟩} (.load c K):=hat.stop h2 rfl rfl rfl rfl rfl rfl rfl rfl rfl;exact⟨hgo.cB rfl,ok.vl rfl rfl rfl rfl rfl rfl ok.la ok.lm ok.lk ok.le ok.fr,by simp,Nat.le_refl _,bT _⟩
   ·refine(gm c hc ok hst h1 h2 hs).mono λ e w' ⟨q,q1,_,q3⟩=>⟨(bV x.cs c,{x with fr:=x.fr-1,acc:=up x.acc,got:=x.got++[bV x.cs c],pg:=q.1,kg:=q.2,a:=x.a+1}),q1,?_,q3⟩;have hN:=hat.hN;have hgN:=hg.hN;have hgo:gS g {x with fr:=x.fr-1,acc:=up x.acc,got:=x.got++[bV x.cs c],pg:=q.1,kg:=q.2,a:=x.a+1} (K (bV x.cs c)):=hat.now (by omega) (λ L=>Wk.vq _) (.load c K x.mm) hst rfl rfl rfl rfl rfl rfl rfl rfl rfl rfl;refine⟨hgo,⟨ok.fit,ok.nd,ok.cs,λ v hv=>?_,ok.made,ok.two,ok.lL,ok.lc,?_,?_,ok.lm,ok.lk,ok.le,?_,ok.ys,ok.gen0,ok.ms,ok.m1⟩,by simp,Nat.le_refl _,ok.cell c⟩
    ·rcases List.mem_append.1 hv with hv|hv
     ·exact ok.got v hv
     ·rw[List.mem_singleton.1 hv];exact ok.cell c
    ·show(x.got++[bV x.cs c]).length<=_
     rw[List.length_append,List.length_cons,List.length_nil];omega
    ·show x.a+1<=(x.got++[bV x.cs c]).length
     have:=ok.la;rw[List.length_append,List.length_cons,List.length_nil];omega
    ·show x.fr-1<=1
     have:=ok.fr;omega
theorem wZ(hg:g.Ok)(c o n:Int)(K:Bool->Tr)(hc:c<=9223372036854775807)(hn:n<=x.L.length)(go:gS g x (.rP c o n K))(ok:x.Ok)(hs:SF w D (xH k bx bm x dn rs) A [] (xW x) w):Calls Tryz.prog 111 #[.pointer (some ⟨bx,0,none⟩),.int .i64 c,.int .i64 o,.int .i64 n] w λ e w'=>∃q:Bool×XS,e=.returned (.bool q.1)/\Nx g x q.2 [] (K q.1) 0/\SF w D (xH k bx bm q.2 dn rs) [] [] (xW q.2) w':=by
 cases hst:x.st with
 | true=>exact(aAM c o n ok hst hs).mono λ e w' ⟨_,q1,_,q3⟩=>⟨(false,x),q1,Nx.st hst go ok,q3⟩
 | false =>
  have hgd:=go.run hst;by_cases h1:x.a<x.got.length
  ·refine(Mg c o n ok hst h1 hs).mono λ e w' ⟨_,q1,_,q3⟩=>⟨(x.got.getD x.a 0==1,{x with a:=x.a+1}),q1,?_,q3⟩
   exact⟨.inl ⟨hst,hgd.Mg h1⟩,ok.vl rfl rfl rfl rfl rfl rfl h1 ok.lm ok.lk ok.le ok.fr,by simp,Nat.le_refl _,bT _⟩
  ·have hat:=hgd.xk h1;by_cases h2:x.fr=0
   ·refine(xd c o n ok hst h1 h2 hs).mono λ e w' ⟨_,q1,_,q3⟩=>⟨(false,{x with st:=true,nx:=⟨2,c,o,n⟩}),q1,?_,q3⟩;have hgo:gS g {x with st:=true,nx:=⟨2,c,o,n⟩} (.rP c o n K):=hat.stop h2 rfl rfl rfl rfl rfl rfl rfl rfl rfl;exact⟨hgo.cB rfl,ok.vl rfl rfl rfl rfl rfl rfl ok.la ok.lm ok.lk ok.le ok.fr,by simp,Nat.le_refl _,bT _⟩
   ·refine(n0 c o n hc ok hst h1 h2 hs).mono λ e w' ⟨q,q1,hb,q3⟩=>⟨(q.1,{x with fr:=x.fr-1,cs:=iR x.cs c o n,acc:=up x.acc,got:=x.got++[S5 q.1],pg:=q.2.1,kg:=q.2.2,a:=x.a+1}),q1,?_,q3⟩;have hN:=hat.hN;have hgN:=hg.hN;have hb1:(S5 q.1==1)=q.1:=by cases q.1<;>rfl
    have hb2:S5 q.1<=x.L.length:=by have:=ok.two;cases q.1<;>simp only[S5]<;>(omega)
    have hlc:=oI (cs:=x.cs) (c:=c) (bO:=o) (new:=n);have hgo:gS g {x with fr:=x.fr-1,cs:=iR x.cs c o n,acc:=up x.acc,got:=x.got++[S5 q.1],pg:=q.2.1,kg:=q.2.2,a:=x.a+1} (K q.1):=hat.now (v:=S5 q.1) (by omega) (λ L=>by have:=Wk.aBr (L:=L) (c:=c) (o:=o) (n:=n) (k:=K) (S5 q.1);rw[hb1] at this;exact this) (.rP c o n K x.mm q.1 hb) hst rfl rfl rfl rfl rfl rfl rfl rfl rfl rfl;refine⟨hgo,⟨ok.fit,λ v hv=>(ok.nd v hv).mono (Nat.le_refl _) (by show _<=(iR x.cs c o n).length;omega),λ v hv=>?_,λ v hv=>?_,ok.made,ok.two,ok.lL,by show(iR x.cs c o n).length<=_;rw[hlc];exact ok.lc,?_,?_,ok.lm,ok.lk,ok.le,?_,ok.ys,ok.gen0,ok.ms,ok.m1⟩,by simp,by show _<=(iR x.cs c o n).length;omega,bT _⟩
    ·have hv':v∈iR x.cs c o n:=hv;unfold iR at hv';split at hv'
     ·rcases List.mem_or_eq_of_mem_set hv' with h|h
      ·exact ok.cs v h
      ·rw[h];exact hn
     ·exact ok.cs v hv'
    ·rcases List.mem_append.1 hv with hv|hv
     ·exact ok.got v hv
     ·rw[List.mem_singleton.1 hv];exact hb2
    ·show(x.got++[S5 q.1]).length<=_
     rw[List.length_append,List.length_cons,List.length_nil];omega
    ·show x.a+1<=(x.got++[S5 q.1]).length
     have:=ok.la;rw[List.length_append,List.length_cons,List.length_nil];omega
    ·show x.fr-1<=1
     have:=ok.fr;omega
end
end

/- Executions of the reference: allocations, cells, generations, lookups along trees; calls. -/
section
open Go Go.RowKit Go.Ct
section
variable{k:Cl}{bx bm:Nat}{x:XS}{dn:Bool}{rs:Rs}{D:List Nat}{A:Fr}{w:World}{g:Gx}
def AlS(x:XS)(r:Int)(x':XS):Prop:=x.st=false->x'.st=false/\x'.m=x.m+1/\x'.made.getD x.m 0=r/\x.m<x'.made.length/\r=if x.m=x.made.length then((x.L.length+1:Nat):Int) else x.made.getD x.m 0
theorem Ja{l:List Int}{v:Int}:(l++[v]).getD l.length 0=v:=by simp[gF]
theorem tk{l:List Int}{n:Nat}(h:∀v∈l,v<=n)(hs:∀i j:Nat,i<j->j<l.length->l.getD i 0<l.getD j 0):∀i j:Nat,i<j->j<(l++[((n+1:Nat):Int)]).length->(l++[((n+1:Nat):Int)]).getD i 0<(l++[((n+1:Nat):Int)]).getD j 0:=by
 intro i j hij hj
 have e:∀k,k<l.length->(l++[((n+1:Nat):Int)]).getD k 0=l.getD k 0:=λ k hk=>by rw[gF,gF,List.getElem?_append_left hk]
 rw[List.length_append,List.length_singleton] at hj
 by_cases h2:j<l.length
 ·rw[e i (by omega),e j h2];exact hs i j hij h2
 ·have:j=l.length:=by omega
  subst this;rw[e i hij,Ja];have:=nV h i;omega
theorem Ui(hg:g.Ok){n:Nd}{xs:List Int}{ys:List Pr}(i:Int)(K:Int->Tr)(e1:n.brN=xs.length)(e2:n.prN=ys.length)(hx:xs.length<=274877906944)(hy:ys.length<=x.L.length+1)(hb:pJ x.L.length x.cs.length {n.c xs ys with main:=0,prev:=0,status:=0})(hi:i<=x.L.length)(go:gS g x (.alloc (n.c xs ys) i K))(ok:x.Ok)(hs:SF w D (xH k bx bm x dn rs) [(n.brA,aH xs),(n.prA,dK ys)] [] (xW x) w) :
  Calls Tryz.prog 114 #[.pointer (some ⟨bx,0,none⟩),n.v,.int .i64 i] w λ e w'=>∃q:Int×XS×List aI,e=.returned (.int .i64 q.1)/\(Nx g x q.2.1 q.2.2 (K q.1) q.1/\AlS x q.1 q.2.1)/\SF w D (xH k bx bm q.2.1 dn rs) [] (bD q.2.2) (xW q.2.1) w':=by
 have hlL:=ok.lL;cases hst:x.st with
 | true=>exact(cx i hst hs).mono λ e w' ⟨_,q1,_,q3⟩=>⟨(0,x,[]),q1,⟨Nx.st hst go ok,λ h=>by rw[hst] at h;cases h⟩,q3⟩
 | false =>
  have hgd:=go.run hst;by_cases h1:x.m=x.made.length
  ·have hat:=hgd.ax h1;obtain⟨tn,c,t1,t2,t3,t4,t5,t6,t7,t8⟩:=hat.room hg
   cases c with
   | zero=>exact t1.elim
   | succ c =>
    refine(X0 i ok hst h1 t6 (by omega) (by omega) e1 e2 (by omega) (by omega) hs).mono λ e w' ⟨q,q1,_,q3⟩=>⟨(((x.L.length+1:Nat):Int),{x with L:=x.L++[lW n xs ys x.cs.length q.1],cs:=kU n.kind x.cs i,pn:=q.1.pn,cn:=q.1.cn,pc:=q.1.pc,cc:=q.1.cc,made:=x.made++[((x.L.length+1:Nat):Int)],pm:=q.2.1,km:=q.2.2,m:=x.m+1},[lW n xs ys x.cs.length q.1]),q1,?_,?_⟩
    ·have hlen:(x.L++[lW n xs ys x.cs.length q.1]).length=x.L.length+1:=by simp
     have hcs:=Dx (k:=n.kind) (cs:=x.cs) (init:=i)
     have hgo:gS g {x with L:=x.L++[lW n xs ys x.cs.length q.1],cs:=kU n.kind x.cs i,pn:=q.1.pn,cn:=q.1.cn,pc:=q.1.pc,cc:=q.1.cc,made:=x.made++[((x.L.length+1:Nat):Int)],pm:=q.2.1,km:=q.2.2,m:=x.m+1} (K ((x.L.length+1:Nat):Int)) :=
      hat.Um (ms:=[((x.L.length+1:Nat):Int)]) (cl:=[]) (gn:=[]) (N:=[lW n xs ys x.cs.length q.1]) (λ L=>Wk.iv _) (by
       have:=Sp.alloc (n.c xs ys) i K x.mm;have hl:x.mm.nodes.length=x.L.length:=by simp[XS.mm]
       rw[hl] at this
       have e:x.mm.push (n.c xs ys) i=XS.mm {x with L:=x.L++[lW n xs ys x.cs.length q.1],cs:=kU n.kind x.cs i,pn:=q.1.pn,cn:=q.1.cn,pc:=q.1.pc,cc:=q.1.cc,made:=x.made++[((x.L.length+1:Nat):Int)],pm:=q.2.1,km:=q.2.2,m:=x.m+1}:=by
        unfold Mm.push XS.mm
        simp only[List.map_append]
        rfl
       rw[<- e]
       exact this) hst rfl rfl (by simp) (by simp) rfl rfl rfl rfl rfl rfl
     refine⟨⟨hgo,⟨λ v hv=>?_,λ v hv=>?_,λ v hv=>?_,λ v hv=>?_,λ v hv=>?_,?_,?_,?_,ok.lg,ok.la,?_,ok.lk,ok.le,ok.fr,λ v hv=>?_,ok.gen0,?_,?_⟩,rfl,hcs.1,?_⟩,λ _=>⟨hst,rfl,by show(x.made++[_]).getD x.m 0=_;rw[h1];exact Ja,by show x.m<(x.made++[_]).length;rw[List.length_append,List.length_singleton];omega,by rw[if_pos h1]⟩⟩
     ·rcases List.mem_append.1 hv with hv|hv
      ·exact ok.fit v hv
      ·rw[List.mem_singleton.1 hv];exact Kx (by omega) (by omega)
     ·show pJ (x.L++[lW n xs ys x.cs.length q.1]).length (kU n.kind x.cs i).length v.c
      rcases List.mem_append.1 hv with hv|hv
      ·exact(ok.nd v hv).mono (by omega) hcs.1
      ·rw[List.mem_singleton.1 hv];have hb':=hb.mono (n':=(x.L++[lW n xs ys x.cs.length q.1]).length) (c':=(kU n.kind x.cs i).length) (by omega) hcs.1;refine⟨hb'.bO,hb'.exp,hb'.new,hb'.br,?_,?_,?_,hb'.bm,hb'.hash⟩
       ·show(if n.kind=2 then((x.cs.length+1:Nat):Int) else 0)<=_
        split
        ·rename_i hk;unfold kU;rw[if_pos (.inl hk)];simp
        ·omega
       ·show(if n.kind=3∨n.kind=5∨n.kind=6 then((x.cs.length+1:Nat):Int) else 0)<=_
        split
        ·rename_i hk;unfold kU;rw[if_pos (by omega)];simp
        ·omega
       ·show(if n.kind=8 then((x.cs.length+1:Nat):Int) else 0)<=_
        split
        ·rename_i hk;unfold kU;rw[if_pos (by omega)];simp
        ·omega
     ·show v<=((x.L++[lW n xs ys x.cs.length q.1]).length:Int)
      have hv':v∈kU n.kind x.cs i:=hv;unfold kU at hv';split at hv'
      ·rcases List.mem_append.1 hv' with h|h
       ·have:=ok.cs v h;omega
       ·rw[List.mem_singleton.1 h];omega
      ·have:=ok.cs v hv';omega
     ·have:=ok.got v hv;show v<=((x.L++[lW n xs ys x.cs.length q.1]).length:Int);omega
     ·show v<=((x.L++[lW n xs ys x.cs.length q.1]).length:Int)
      rcases List.mem_append.1 hv with hv|hv
      ·have:=ok.made v hv;omega
      ·rw[List.mem_singleton.1 hv];omega
     ·have:=ok.two;show 2<=(x.L++[lW n xs ys x.cs.length q.1]).length;omega
     ·show(x.L++[lW n xs ys x.cs.length q.1]).length<=_;omega
     ·show(kU n.kind x.cs i).length<=_;omega
     ·show x.m+1<=(x.made++[((x.L.length+1:Nat):Int)]).length
      rw[List.length_append,List.length_cons,List.length_nil];omega
     ·show v.ys.length<=(x.L++[lW n xs ys x.cs.length q.1]).length
      rcases List.mem_append.1 hv with hv|hv
      ·have:=ok.ys v hv;omega
      ·rw[List.mem_singleton.1 hv]
       show ys.length<=_
       omega
     ·show ∀i j:Nat,i<j->j<(x.made++[((x.L.length+1:Nat):Int)]).length->(x.made++[((x.L.length+1:Nat):Int)]).getD i 0<(x.made++[((x.L.length+1:Nat):Int)]).getD j 0
      exact tk ok.made ok.ms
     ·show ∀v∈x.made++[((x.L.length+1:Nat):Int)],1<=v
      intro v hv
      rcases List.mem_append.1 hv with hv|hv
      ·exact ok.m1 v hv
      ·rw[List.mem_singleton.1 hv];omega
     ·show((x.L.length+1:Nat):Int)<=((x.L++[lW n xs ys x.cs.length q.1]).length:Int);omega
    ·have e:bD [lW n xs ys x.cs.length q.1]=(lW n xs ys x.cs.length q.1).fr:=by simp[bD]
     rw[e]
     exact q3
  ·have h2:x.m<x.made.length:=by have:=ok.lm;omega
   have hml:x.made.length<=274877906944:=by
    obtain⟨R,hR⟩:=hgd
    obtain⟨c2,_,_,u3⟩:=hR.full.xB (Nat.le_refl 64) hg.xB (by have:=hR.hN;omega)
    have:=hg.hN;have:=hR.hN;omega
   refine(alloc_old i ok hst h2 hml hs).mono λ e w' ⟨_,q1,_,q3⟩=>⟨(x.made.getD x.m 0,{x with m:=x.m+1},[]),q1,?_,q3⟩
   exact⟨⟨.inl ⟨hst,hgd.alloc_old h2⟩,ok.vl rfl rfl rfl rfl rfl rfl ok.la h2 ok.lk ok.le ok.fr,by simp,Nat.le_refl _,nV ok.made _⟩,λ _=>⟨hst,rfl,rfl,h2,by rw[if_neg h1]⟩⟩
theorem iD(hg:g.Ok){n:Nd}{xs:List Int}{ys:List Pr}(i:Int)(K:Int->Tr)(e1:n.brN=xs.length)(e2:n.prN=ys.length)(hx:xs.length<=274877906944)(hy:ys.length<=x.L.length+1)(hb:pJ x.L.length x.cs.length {n.c xs ys with main:=0,prev:=0,status:=0})(hi:i<=x.L.length)(go:gS g x (.alloc (n.c xs ys) i K))(ok:x.Ok)(hs:SF w D (xH k bx bm x dn rs) [(n.brA,aH xs),(n.prA,dK ys)] [] (xW x) w) :
  Calls Tryz.prog 114 #[.pointer (some ⟨bx,0,none⟩),n.v,.int .i64 i] w λ e w'=>∃q:Int×XS×List aI,e=.returned (.int .i64 q.1)/\Nx g x q.2.1 q.2.2 (K q.1) q.1/\SF w D (xH k bx bm q.2.1 dn rs) [] (bD q.2.2) (xW q.2.1) w':=by
 exact(Ui hg i K e1 e2 hx hy hb hi go ok hs).mono λ e w' ⟨q,q1,q2,q3⟩=>⟨q,q1,q2.1,q3⟩
theorem S9(hg:g.Ok)(i:Int)(K:Int->Tr)(hi:i<=x.L.length)(go:gS g x (.cell i K))(ok:x.Ok)(hs:SF w D (xH k bx bm x dn rs) A [] (xW x) w):Calls Tryz.prog 126 #[.pointer (some ⟨bx,0,none⟩),.int .i64 i] w λ e w'=>∃q:Int×XS,e=.returned (.int .i64 q.1)/\Nx g x q.2 [] (K q.1) 0/\SF w D (xH k bx bm q.2 dn rs) [] [] (xW q.2) w':=by
 cases hst:x.st with
 | true=>exact(p9 i hst hs).mono λ e w' ⟨_,q1,_,q3⟩=>⟨(0,x),q1,Nx.st hst go ok,q3⟩
 | false =>
  have hgd:=go.run hst;by_cases h1:x.c=x.cel.length
  ·have hat:=hgd.ud h1;obtain⟨tn,c,t1,t2,t3,t4,t5,t6,t7,t8⟩:=hat.room hg
   cases c with
   | zero=>exact t1.elim
   | succ c =>
    refine(fw i hst h1 t7 (by omega) hs).mono λ e w' ⟨q,q1,_,q3⟩=>⟨(((x.cs.length+1:Nat):Int),{x with cs:=x.cs++[i],pc:=q.1.1,cc:=q.1.2,cel:=x.cel++[((x.cs.length+1:Nat):Int)],pl:=q.2.1,kl:=q.2.2,c:=x.c+1}),q1,?_,q3⟩
    have hgo:gS g {x with cs:=x.cs++[i],pc:=q.1.1,cc:=q.1.2,cel:=x.cel++[((x.cs.length+1:Nat):Int)],pl:=q.2.1,kl:=q.2.2,c:=x.c+1} (K ((x.cs.length+1:Nat):Int)) :=
     hat.Um (ms:=[]) (cl:=[((x.cs.length+1:Nat):Int)]) (gn:=[]) (N:=[]) (λ L=>Wk.Jn _) (Sp.cell i K x.mm) hst rfl (by simp) rfl (by simp) (by simp) rfl rfl rfl rfl rfl
    have hlc:(x.cs++[i]).length=x.cs.length+1:=by simp
    refine⟨hgo,⟨ok.fit,λ v hv=>(ok.nd v hv).mono (Nat.le_refl _) (by show _<=(x.cs++[i]).length;omega),λ v hv=>?_,ok.got,ok.made,ok.two,ok.lL,by show(x.cs++[i]).length<=_;omega,ok.lg,ok.la,ok.lm,?_,ok.le,ok.fr,ok.ys,ok.gen0,ok.ms,ok.m1⟩,by simp,by show _<=(x.cs++[i]).length;omega,bT _⟩
    ·rcases List.mem_append.1 hv with h|h
     ·exact ok.cs v h
     ·rw[List.mem_singleton.1 h];exact hi
    ·show x.c+1<=(x.cel++[((x.cs.length+1:Nat):Int)]).length
     rw[List.length_append,List.length_cons,List.length_nil];omega
  ·have h2:x.c<x.cel.length:=by have:=ok.lk;omega
   have hml:x.cel.length<=274877906944:=by
    obtain⟨R,hR⟩:=hgd
    obtain⟨c2,_,_,u3⟩:=hR.full.xB (Nat.le_refl 64) hg.xB (by have:=hR.hN;omega)
    have:=hg.hN;have:=hR.hN;omega
   refine(Ho i hst h2 hml hs).mono λ e w' ⟨_,q1,_,q3⟩=>⟨(x.cel.getD x.c 0,{x with c:=x.c+1}),q1,?_,q3⟩
   exact⟨.inl ⟨hst,hgd.Ho h2⟩,ok.vl rfl rfl rfl rfl rfl rfl ok.la ok.lm h2 ok.le ok.fr,by simp,Nat.le_refl _,bT _⟩
theorem jy(hg:g.Ok)(K:Int->Tr)(go:gS g x (.gen K))(ok:x.Ok)(hs:SF w D (xH k bx bm x dn rs) A [] (xW x) w):Calls Tryz.prog 128 #[.pointer (some ⟨bx,0,none⟩)] w λ e w'=>∃q:Int×XS,e=.returned (.int .i64 q.1)/\Nx g x q.2 [] (K q.1) 0/\SF w D (xH k bx bm q.2 dn rs) [] [] (xW q.2) w':=by
 cases hst:x.st with
 | true=>exact(xa hst hs).mono λ e w' ⟨_,q1,_,q3⟩=>⟨(0,x),q1,Nx.st hst go ok,q3⟩
 | false =>
  have hgd:=go.run hst;by_cases h1:x.g=x.gns.length
  ·have hat:=hgd.z8 h1;obtain⟨tn,c,t1,t2,t3,t4,t5,t6,t7,t8⟩:=hat.room hg
   cases c with
   | zero=>exact t1.elim
   | succ c =>
    refine(oi hst h1 t8 ⟨by have:=ok.gen0;omega,by omega⟩ hs).mono λ e w' ⟨q,q1,_,q3⟩=>⟨(x.gen+1,{x with gen:=x.gen+1,gns:=x.gns++[x.gen+1],pe:=q.1,ke:=q.2,g:=x.g+1}),q1,?_,q3⟩
    have hgo:gS g {x with gen:=x.gen+1,gns:=x.gns++[x.gen+1],pe:=q.1,ke:=q.2,g:=x.g+1} (K (x.gen+1)) :=
     hat.Um (ms:=[]) (cl:=[]) (gn:=[x.gen+1]) (N:=[]) (λ L=>Wk.aBh _) (Sp.gen K x.mm) hst rfl (by simp) (by simp) rfl (by simp) rfl rfl rfl rfl rfl
    refine⟨hgo,⟨ok.fit,ok.nd,ok.cs,ok.got,ok.made,ok.two,ok.lL,ok.lc,ok.lg,ok.la,ok.lm,ok.lk,?_,ok.fr,ok.ys,?_,ok.ms,ok.m1⟩,by simp,Nat.le_refl _,bT _⟩
    ·show x.g+1<=(x.gns++[x.gen+1]).length
     rw[List.length_append,List.length_cons,List.length_nil];omega
    ·show 0<=x.gen+1
     have:=ok.gen0;omega
  ·have h2:x.g<x.gns.length:=by have:=ok.le;omega
   have hml:x.gns.length<=274877906944:=by
    obtain⟨R,hR⟩:=hgd
    obtain⟨c2,_,_,u3⟩:=hR.full.xB (Nat.le_refl 64) hg.xB (by have:=hR.hN;omega)
    have:=hg.hN;have:=hR.hN;omega
   refine(Kv hst h2 hml hs).mono λ e w' ⟨_,q1,_,q3⟩=>⟨(x.gns.getD x.g 0,{x with g:=x.g+1}),q1,?_,q3⟩
   exact⟨.inl ⟨hst,hgd.Kv h2⟩,ok.vl rfl rfl rfl rfl rfl rfl ok.la ok.lm ok.lk h2 ok.fr,by simp,Nat.le_refl _,bT _⟩
theorem cW(r:Int)(K:Nv->Tr)(hr:r<=x.L.length)(go:gS g x (.node r K))(ok:x.Ok)(hs:SF w D (xH k bx bm x dn rs) A [] (xW x) w):Calls Tryz.prog 110 #[.pointer (some ⟨bx,0,none⟩),.int .i64 r] w λ e w'=>∃q:Unit,e=.returned (aA x.L r).nd.v/\(gS g x (K (aA x.L r).c)/\pJ x.L.length x.cs.length (aA x.L r).c)/\SF w D (xH k bx bm x dn rs) [] [] (xW x) w':=by
 have hl:=ok.lL;refine(gE r (by omega) ok hs).mono λ e w' ⟨q,q1,_,q3⟩=>⟨q,q1,⟨?_,ok.nv r⟩,q3⟩;have:=go.node hr;rw[show bH x.nodes r=(aA x.L r).c from(Lo x.L r).symm] at this;exact this
end
end

end Go.Proofs.YtadnboagdhcedaaGreatDoor
