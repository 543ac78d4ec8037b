/- Merged. -/
import Derived.Test.YtbajmaoegmbfgaaGreatGEx1
set_option linter.unusedSimpArgs false
set_option linter.unusedVariables false
namespace Go.Proofs.YtbajmaoegmbfgaaGreat
open Go.Proofs.Tryz (prog)
open Go Go.RowKit Go.Ct
section
theorem P7:cU prog 27=some (.int .i64 0):=by kernel_rfl
theorem G5:dS prog 151 27 [.int .i64 0]:=mQ (by kernel_rfl) P7 rfl
section
variable{k:Cl}{bx bm:Nat}{x:XS}{dn:Bool}{rs:Rs}{D:List Nat}{A:Fr}{w:World}
theorem oq(i:Int)(h:x.st=true)(hs:SF w D (xH k bx bm x dn rs) A [] (xW x) w):Calls prog 228 #[.pointer (some ⟨bx,0,none⟩),.int .i64 i] w λ e w'=>∃q:Unit,e=.returned (.int .i64 0)/\True/\SF w D (xH k bx bm x dn rs) [] [] (xW x) w':=by
 refine enter Tryz.func228 Tryz.ntmps228 rfl rfl (cB hs) ?_
 simp only[cC]
 refine Hg ?_;refine Kc1 ?_
 refine bC (λ c8=>?_) (λ c8=>?_)
 ·refine cX ?_
  refine aR Tryz.results228 (λ w hw=>?_)
  exact⟨(),rfl,trivial,hw.aX⟩
 ·exact absurd (h.symm.trans c8) (by decide)
theorem Hr(i:Int)(h:x.st=false)(h1:x.c<x.cel.length)(hl:x.cel.length<=274877906944)(hs:SF w D (xH k bx bm x dn rs) A [] (xW x) w):Calls prog 228 #[.pointer (some ⟨bx,0,none⟩),.int .i64 i] w λ e w'=>∃q:Unit,e=.returned (.int .i64 (x.cel.getD x.c 0))/\True/\SF w D (xH k bx bm {x with c:=x.c+1} dn rs) [] [] (xW {x with c:=x.c+1}) w':=by
 refine enter Tryz.func228 Tryz.ntmps228 rfl rfl (cB hs) ?_
 simp only[cC]
 refine Hg ?_;refine Kc1 ?_
 refine bC (λ c8=>?_) (λ c8=>?_)
 ·try (exfalso;omega)
  exact absurd (h.symm.trans c8) (by decide)
 ·try (exfalso;omega)
  refine kW ?_;refine aV ?_;refine gZ [0,1,2,3,4,5,6,7,8,9] ?_;refine Ee ?_;refine oI ?_;refine nE ?_;refine eL ?_
  refine bC (λ c18=>?_) (λ c18=>?_)
  ·try (exfalso;omega)
  ·try (exfalso;omega)
   refine v9 ?_;refine aC (pB (m:=x.c) (n:=1) rf rf (by omega)) rfl ?_;refine Nu ?_;refine dA (by exact jR λ _=>fE rf dC wn rf fW rf rf lS) (λ _=>?_);refine Qo ?_;refine gZ [0,1,2,3,4,5,6,7,8,9,10,11] ?_;refine Ee ?_;refine cJ (i:=8) (hq:=(jK (m:=x.c+1) (n:=1) rf rf (by omega) (by omega))) (h:=?_);refine bV (i:=9) (hq:=(dH (m:=x.cel.length) (k:=x.c+1-1) (lst:=x.cel) rf rf gE fW (.own (.tail (.tail .head))) (by omega) (by omega))) (h:=?_);refine bV (i:=10) (hq:=(eX (q:=x.c+1-1) (lst:=x.cel) rf fW (.own (.tail (.tail .head))) (by omega))) (h:=?_);refine J7 ?_
   refine aR Tryz.results228 (λ w hw=>?_)
   exact⟨(),by rw[Nat.add_sub_cancel];rfl,trivial,hw.aX⟩
theorem ko(i:Int)(h:x.st=false)(h1:x.c=x.cel.length)(hl:x.cel.length<=137438953472)(hcl:x.cs.length<=274877906900)(hs:SF w D (xH k bx bm x dn rs) A [] (xW x) w):Calls prog 228 #[.pointer (some ⟨bx,0,none⟩),.int .i64 i] w λ e w'=>∃q:(Option Addr×Nat)×(Option Addr×Nat),e=.returned (.int .i64 ((x.cs.length+1:Nat):Int))/\True /\
   SF w D (xH k bx bm {x with cs:=x.cs++[i],pc:=q.1.1,cc:=q.1.2,cel:=x.cel++[((x.cs.length+1:Nat):Int)],pl:=q.2.1,kl:=q.2.2,c:=x.c+1} dn rs) [] [] (xW {x with cs:=x.cs++[i],pc:=q.1.1,cc:=q.1.2,cel:=x.cel++[((x.cs.length+1:Nat):Int)],pl:=q.2.1,kl:=q.2.2,c:=x.c+1}) w':=by
 refine enter Tryz.func228 Tryz.ntmps228 rfl rfl (cB hs) ?_
 simp only[cC]
 refine Hg ?_;refine Kc1 ?_
 refine bC (λ c8=>?_) (λ c8=>?_)
 ·try (exfalso;omega)
  exact absurd (h.symm.trans c8) (by decide)
 ·try (exfalso;omega)
  refine kW ?_;refine aV ?_;refine gZ [0,1,2,3,4,5,6,7,8,9] ?_;refine Ee ?_;refine oI ?_;refine nE ?_;refine eL ?_
  refine bC (λ c18=>?_) (λ c18=>?_)
  ·try (exfalso;omega)
   refine eC [(0,[]),(1,[]),(2,[]),(3,[]),(4,[]),(5,[]),(6,[]),(7,[]),(8,[]),(9,[]),(10,[4]),(11,[4]),(12,[]),(13,[]),(14,[]),(15,[])] ?_;refine aN ?_;refine Ee ?_;refine aN ?_;refine bB (i:=10) (hq:=(cM (hc:=λ w hs=>lI (L:=x.L) (cs:=x.cs) i hs (by omega)))) (h:=λ x29 h29=>?_);refine cR (i:=11) (hq:=((by exact Ma (λ _=>cQ (cs:=aG [((x.cs.length+1:Nat):Int)]) G5 Jr rfl rfl rfl rfl rfl)))) (h:=λ x30=>?_);((refine cR (i:=12) (hq:=(bF.eK (uD (l:=x.cel) (m:=x.cel.length) rf rf (.tail (.tail .head)) rfl fin (by exact G5) gE (by omega)) uV)) (h:=λ x31=>?_);try (refine eH (λ h31=>?_))));refine J4 ?_;refine kU (i:=15) (hq:=(by exact jR λ _=>fE rf dC wn rf fW rf rf lS)) (h:=λ _=>?_);refine eL ?_;refine mD ?_;refine aC (pB (m:=x.c) (n:=1) rf rf (by omega)) rfl ?_;refine Nu ?_;refine dA (by exact jR λ _=>fE rf dC wn rf fW rf rf lS) (λ _=>?_);refine Qo ?_;refine gZ [0,1,2,3,4,5,6,7,8,9,10,11] ?_;refine Ee ?_;refine cJ (i:=8) (hq:=(jK (m:=x.c+1) (n:=1) rf rf (by omega) (by omega))) (h:=?_);refine bV (i:=9) (hq:=(dH (m:=x.cel.length+1) (k:=x.c+1-1) rf rf gE fW (.own (.tail (.tail .head))) (by omega) (by rw[List.length_append,List.length_cons,List.length_nil];omega))) (h:=?_);refine bV (i:=10) (hq:=(eX (q:=x.c+1-1) rf fW (.own (.tail (.tail .head))) (by rw[List.length_append,List.length_cons,List.length_nil];omega))) (h:=?_);refine J7 ?_
   refine aR Tryz.results228 (λ w hw=>?_)
   rw[show x.cel.length+1=(x.cel++[((x.cs.length+1:Nat):Int)]).length by simp] at hw
   exact⟨(x29,x31),by rw[show x.c+1-1=x.cel.length by omega,sL];rfl,trivial,hw.aX⟩
  ·try (exfalso;omega)
theorem yt(h:x.st=true)(hs:SF w D (xH k bx bm x dn rs) A [] (xW x) w):Calls prog 230 #[.pointer (some ⟨bx,0,none⟩)] w λ e w'=>∃q:Unit,e=.returned (.int .i64 0)/\True/\SF w D (xH k bx bm x dn rs) [] [] (xW x) w':=by
 refine enter Tryz.func230 Tryz.ntmps230 rfl rfl (cB hs) ?_
 simp only[cC]
 refine Hg ?_;refine Kc1 ?_
 refine bC (λ c6=>?_) (λ c6=>?_)
 ·refine cX ?_
  refine aR Tryz.results230 (λ w hw=>?_)
  exact⟨(),rfl,trivial,hw.aX⟩
 ·exact absurd (h.symm.trans c6) (by decide)
theorem Nk(h:x.st=false)(h1:x.g<x.gns.length)(hl:x.gns.length<=274877906944)(hs:SF w D (xH k bx bm x dn rs) A [] (xW x) w):Calls prog 230 #[.pointer (some ⟨bx,0,none⟩)] w λ e w'=>∃q:Unit,e=.returned (.int .i64 (x.gns.getD x.g 0))/\True/\SF w D (xH k bx bm {x with g:=x.g+1} dn rs) [] [] (xW {x with g:=x.g+1}) w':=by
 refine enter Tryz.func230 Tryz.ntmps230 rfl rfl (cB hs) ?_
 simp only[cC]
 refine Hg ?_;refine Kc1 ?_
 refine bC (λ c6=>?_) (λ c6=>?_)
 ·try (exfalso;omega)
  exact absurd (h.symm.trans c6) (by decide)
 ·try (exfalso;omega)
  refine kW ?_;refine aV ?_;refine gZ [0,1,2,3,4,5,6,7,8,9] ?_;refine Ee ?_;refine oI ?_;refine nE ?_;refine eL ?_
  refine bC (λ c16=>?_) (λ c16=>?_)
  ·try (exfalso;omega)
  ·try (exfalso;omega)
   refine v9 ?_;refine aC (pB (m:=x.g) (n:=1) rf rf (by omega)) rfl ?_;refine Nu ?_;refine dA (by exact jR λ _=>fE rf dC wn rf fW rf rf lS) (λ _=>?_);refine Qo ?_;refine gZ [0,1,2,3,4,5,6,7,8,9,10,11] ?_;refine Ee ?_;refine cJ (i:=8) (hq:=(jK (m:=x.g+1) (n:=1) rf rf (by omega) (by omega))) (h:=?_);refine bV (i:=9) (hq:=(dH (m:=x.gns.length) (k:=x.g+1-1) (lst:=x.gns) rf rf gE fW (.own (.tail (.tail (.tail .head)))) (by omega) (by omega))) (h:=?_);refine bV (i:=10) (hq:=(eX (q:=x.g+1-1) (lst:=x.gns) rf fW (.own (.tail (.tail (.tail .head)))) (by omega))) (h:=?_);refine J7 ?_
   refine aR Tryz.results230 (λ w hw=>?_)
   exact⟨(),by rw[Nat.add_sub_cancel];rfl,trivial,hw.aX⟩
theorem po(h:x.st=false)(h1:x.g=x.gns.length)(hl:x.gns.length<=137438953472)(hgn : -1<=x.gen/\x.gen<=137438953600)(hs:SF w D (xH k bx bm x dn rs) A [] (xW x) w):Calls prog 230 #[.pointer (some ⟨bx,0,none⟩)] w λ e w'=>∃q:Option Addr×Nat,e=.returned (.int .i64 (x.gen+1))/\True /\
   SF w D (xH k bx bm {x with gen:=x.gen+1,gns:=x.gns++[x.gen+1],pe:=q.1,ke:=q.2,g:=x.g+1} dn rs) [] [] (xW {x with gen:=x.gen+1,gns:=x.gns++[x.gen+1],pe:=q.1,ke:=q.2,g:=x.g+1}) w':=by
 have hup:up x.gen=x.gen+1:=wrap_i64 (by omega) (by omega)
 refine enter Tryz.func230 Tryz.ntmps230 rfl rfl (cB hs) ?_
 simp only[cC]
 refine Hg ?_;refine Kc1 ?_
 refine bC (λ c6=>?_) (λ c6=>?_)
 ·try (exfalso;omega)
  exact absurd (h.symm.trans c6) (by decide)
 ·try (exfalso;omega)
  refine kW ?_;refine aV ?_;refine gZ [0,1,2,3,4,5,6,7,8,9] ?_;refine Ee ?_;refine oI ?_;refine nE ?_;refine eL ?_
  refine bC (λ c16=>?_) (λ c16=>?_)
  ·try (exfalso;omega)
   refine eC [(0,[]),(1,[]),(2,[]),(3,[]),(4,[]),(5,[]),(6,[]),(7,[]),(8,[]),(9,[4]),(10,[4]),(11,[]),(12,[]),(13,[]),(14,[])] ?_;refine aN ?_;refine Ee ?_;refine bB (i:=9) (hq:=(cM (hc:=λ w hs=>Ja (L:=x.L) (cs:=x.cs) (gen:=x.gen) hs))) (h:=λ x26 h26=>?_);refine bZ (h:=λ x27=>?_);((refine cR (i:=11) (hq:=(bF.eK (uD (l:=x.gns) (m:=x.gns.length) rf rf (.tail (.tail (.tail .head))) rfl fin (by exact Hv) gE (by omega)) uV)) (h:=λ x28=>?_);try (refine eH (λ h28=>?_))));refine J4 ?_;refine kU (i:=14) (hq:=(by exact jR λ _=>fE rf dC wn rf fW rf rf lS)) (h:=λ _=>?_);refine eL ?_;refine mD ?_;refine aC (pB (m:=x.g) (n:=1) rf rf (by omega)) rfl ?_;refine Nu ?_;refine dA (by exact jR λ _=>fE rf dC wn rf fW rf rf lS) (λ _=>?_);refine Qo ?_;refine gZ [0,1,2,3,4,5,6,7,8,9,10,11] ?_;refine Ee ?_;refine cJ (i:=8) (hq:=(jK (m:=x.g+1) (n:=1) rf rf (by omega) (by omega))) (h:=?_);refine bV (i:=9) (hq:=(dH (m:=x.gns.length+1) (k:=x.g+1-1) rf rf gE fW (.own (.tail (.tail (.tail .head)))) (by omega) (by rw[List.length_append,List.length_cons,List.length_nil];omega))) (h:=?_);refine bV (i:=10) (hq:=(eX (q:=x.g+1-1) rf fW (.own (.tail (.tail (.tail .head)))) (by rw[List.length_append,List.length_cons,List.length_nil];omega))) (h:=?_);refine J7 ?_
   refine aR Tryz.results230 (λ w hw=>?_)
   rw[hup,show x.gns.length+1=(x.gns++[x.gen+1]).length by simp] at hw
   exact⟨x28,by rw[show x.g+1-1=x.gns.length by omega,sL,hup];rfl,trivial,hw.aX⟩
  ·try (exfalso;omega)
end
end
end Go.Proofs.YtbajmaoegmbfgaaGreat
namespace Go.Ct
open Go Go.RowKit
section
section
variable{g:Gx}{x:XS}{N:List aP}
theorem XS.Ok.vf(h:x.Ok){y:XS}(e1:y.L=x.L)(e2:y.cs=x.cs)(e3:y.got=x.got)(e4:y.made=x.made)(e5:y.cel=x.cel)(e6:y.gns=x.gns)(ha:y.a<=x.got.length)(hm:y.m<=x.made.length)(hc:y.c<=x.cel.length)(hg:y.g<=x.gns.length)(hf:y.fr<=1)(e7:y.gen=x.gen:=by rfl):y.Ok :=
 ⟨by rw[e1];exact h.fit,by rw[e1,e2];exact h.nd,by rw[e1,e2];exact h.cs,by rw[e1,e3];exact h.got,by rw[e1,e4];exact h.made,by rw[e1];exact h.two,by rw[e1];exact h.lL,by rw[e2];exact h.lc,by rw[e3];exact h.lg,by rw[e3];exact ha,by rw[e4];exact hm,by rw[e5];exact hc,by rw[e6];exact hg,hf,by rw[e1];exact h.ys,by rw[e7];exact h.gen0,by rw[e4];exact h.ms,by rw[e4];exact h.m1⟩
theorem Nx.st{t:Tr}(hs:x.st=true)(go:gF g x t)(ok:x.Ok){t':Tr}:Nx g x x [] t' 0:=⟨go.bX hs,ok,by simp,Nat.le_refl _,bK _⟩
theorem Nx.cH{x':XS}{t t':Tr}{b b':Int}(h:Nx g x x' N t b)(go:gF g x' t')(hb:b'<=x'.L.length):Nx g x x' N t' b':=⟨go,h.ok,h.ext,h.lc,hb⟩
theorem Nx.len{x':XS}{t:Tr}{b:Int}(h:Nx g x x' N t b):x.L.length<=x'.L.length:=by rw[h.ext,List.length_append];omega
theorem Nx.trans{x1 x2:XS}{N1 N2:List aP}{t1 t2:Tr}{b1 b2:Int}(h1:Nx g x x1 N1 t1 b1)(h2:Nx g x1 x2 N2 t2 b2):Nx g x x2 (N1++N2) t2 b2:=⟨h2.go,h2.ok,by rw[h2.ext,h1.ext,List.append_assoc],Nat.le_trans h1.lc h2.lc,h2.bd⟩
theorem Nx.ext'{x':XS}{t t':Tr}{b b':Int}(h:Nx g x x' (N++[]) t b)(go:gF g x' t')(hb:b'<=x'.L.length):Nx g x x' N t' b':=⟨go,h.ok,by have:=h.ext;rwa [List.append_nil] at this,h.lc,hb⟩
theorem Nx.start{t:Tr}(go:gF g x t)(ok:x.Ok):Nx g x x [] t 0:=⟨go,ok,by simp,Nat.le_refl _,bK _⟩
end
end
end Go.Ct
namespace Go.Proofs.YtbajmaoegmbfgaaGreat
open Go Go.RowKit Go.Ct
section
section
variable{k:Cl}{bx bm:Nat}{x:XS}{dn:Bool}{rs:Rs}{D:List Nat}{A:Fr}{w:World}{g:Gx}
theorem pZ(hg:g.Ok)(c:Int)(K:Int->Tr)(hc:c<=9223372036854775807)(go:gF g x (.load c K))(ok:x.Ok)(hs:SF w D (xH k bx bm x dn rs) A [] (xW x) w):Calls Tryz.prog 210 #[.pointer (some ⟨bx,0,none⟩),.int .i64 c] w λ e w'=>∃q:Int×XS,e=.returned (.int .i64 q.1)/\Nx g x q.2 [] (K q.1) q.1/\SF w D (xH k bx bm q.2 dn rs) [] [] (xW q.2) w':=by
 cases hst:x.st with
 | true=>exact(qh c ok hst hs).mono λ e w' ⟨_,q1,_,q3⟩=>⟨(0,x),q1,Nx.st hst go ok,q3⟩
 | false =>
  have hgd:=go.run hst
  by_cases h1:x.a<x.got.length
  ·refine(Hb c ok hst h1 hs).mono λ e w' ⟨_,q1,_,q3⟩=>⟨(x.got.getD x.a 0,{x with a:=x.a+1}),q1,?_,q3⟩
   exact⟨.inl ⟨hst,hgd.Hb h1⟩,ok.vf rfl rfl rfl rfl rfl rfl h1 ok.lm ok.lk ok.le ok.fr,by simp,Nat.le_refl _,mM ok.got _⟩
  ·have hat:=hgd.tz h1
   by_cases h2:x.fr=0
   ·refine(rk c ok hst h1 h2 hs).mono λ e w' ⟨_,q1,_,q3⟩=>⟨(0,{x with st:=true,nx:=⟨1,c,0,0⟩}),q1,?_,q3⟩
    have hgo:gF g {x with st:=true,nx:=⟨1,c,0,0⟩} (.load c K):=hat.stop h2 rfl rfl rfl rfl rfl rfl rfl rfl rfl
    exact⟨hgo.bX rfl,ok.vf rfl rfl rfl rfl rfl rfl ok.la ok.lm ok.lk ok.le ok.fr,by simp,Nat.le_refl _,bK _⟩
   ·refine(jg c hc ok hst h1 h2 hs).mono λ e w' ⟨q,q1,_,q3⟩=>⟨(aW x.cs c,{x with fr:=x.fr-1,acc:=up x.acc,got:=x.got++[aW x.cs c],pg:=q.1,kg:=q.2,a:=x.a+1}),q1,?_,q3⟩
    have hN:=hat.hN
    have hgN:=hg.hN
    have hgo:gF g {x with fr:=x.fr-1,acc:=up x.acc,got:=x.got++[aW x.cs c],pg:=q.1,kg:=q.2,a:=x.a+1} (K (aW x.cs c)):=hat.now (by omega) (λ L=>Wk.va _) (.load c K x.mm) hst rfl rfl rfl rfl rfl rfl rfl rfl rfl rfl
    refine⟨hgo,⟨ok.fit,ok.nd,ok.cs,λ v hv=>?_,ok.made,ok.two,ok.lL,ok.lc,?_,?_,ok.lm,ok.lk,ok.le,?_,ok.ys,ok.gen0,ok.ms,ok.m1⟩,by simp,Nat.le_refl _,ok.cell c⟩
    ·rcases List.mem_append.1 hv with hv|hv
     ·exact ok.got v hv
     ·rw[List.mem_singleton.1 hv];exact ok.cell c
    ·show(x.got++[aW x.cs c]).length<=_
     rw[List.length_append,List.length_cons,List.length_nil];omega
    ·show x.a+1<=(x.got++[aW x.cs c]).length
     have:=ok.la
     rw[List.length_append,List.length_cons,List.length_nil];omega
    ·show x.fr-1<=1
     have:=ok.fr;omega
theorem wB(hg:g.Ok)(c o n:Int)(K:Bool->Tr)(hc:c<=9223372036854775807)(hn:n<=x.L.length)(go:gF g x (.jE c o n K))(ok:x.Ok)(hs:SF w D (xH k bx bm x dn rs) A [] (xW x) w):Calls Tryz.prog 212 #[.pointer (some ⟨bx,0,none⟩),.int .i64 c,.int .i64 o,.int .i64 n] w λ e w'=>∃q:Bool×XS,e=.returned (.bool q.1)/\Nx g x q.2 [] (K q.1) 0/\SF w D (xH k bx bm q.2 dn rs) [] [] (xW q.2) w':=by
 cases hst:x.st with
 | true=>exact(xr c o n ok hst hs).mono λ e w' ⟨_,q1,_,q3⟩=>⟨(false,x),q1,Nx.st hst go ok,q3⟩
 | false =>
  have hgd:=go.run hst
  by_cases h1:x.a<x.got.length
  ·refine(Lc c o n ok hst h1 hs).mono λ e w' ⟨_,q1,_,q3⟩=>⟨(x.got.getD x.a 0==1,{x with a:=x.a+1}),q1,?_,q3⟩
   exact⟨.inl ⟨hst,hgd.Lc h1⟩,ok.vf rfl rfl rfl rfl rfl rfl h1 ok.lm ok.lk ok.le ok.fr,by simp,Nat.le_refl _,bK _⟩
  ·have hat:=hgd.aAb h1
   by_cases h2:x.fr=0
   ·refine(yd c o n ok hst h1 h2 hs).mono λ e w' ⟨_,q1,_,q3⟩=>⟨(false,{x with st:=true,nx:=⟨2,c,o,n⟩}),q1,?_,q3⟩
    have hgo:gF g {x with st:=true,nx:=⟨2,c,o,n⟩} (.jE c o n K):=hat.stop h2 rfl rfl rfl rfl rfl rfl rfl rfl rfl
    exact⟨hgo.bX rfl,ok.vf rfl rfl rfl rfl rfl rfl ok.la ok.lm ok.lk ok.le ok.fr,by simp,Nat.le_refl _,bK _⟩
   ·refine(oj c o n hc ok hst h1 h2 hs).mono λ e w' ⟨q,q1,hb,q3⟩=>⟨(q.1,{x with fr:=x.fr-1,cs:=dE x.cs c o n,acc:=up x.acc,got:=x.got++[Uk q.1],pg:=q.2.1,kg:=q.2.2,a:=x.a+1}),q1,?_,q3⟩
    have hN:=hat.hN
    have hgN:=hg.hN
    have hb1:(Uk q.1==1)=q.1:=by cases q.1<;>rfl
    have hb2:Uk q.1<=x.L.length:=by have:=ok.two;cases q.1<;>simp only[Uk]<;>(omega)
    have hlc:=fI (cs:=x.cs) (c:=c) (bJ:=o) (new:=n)
    have hgo:gF g {x with fr:=x.fr-1,cs:=dE x.cs c o n,acc:=up x.acc,got:=x.got++[Uk q.1],pg:=q.2.1,kg:=q.2.2,a:=x.a+1} (K q.1):=hat.now (v:=Uk q.1) (by omega) (λ L=>by have:=Wk.aBx (L:=L) (c:=c) (o:=o) (n:=n) (k:=K) (Uk q.1);rw[hb1] at this;exact this) (.jE c o n K x.mm q.1 hb) hst rfl rfl rfl rfl rfl rfl rfl rfl rfl rfl
    refine⟨hgo,⟨ok.fit,λ v hv=>(ok.nd v hv).mono (Nat.le_refl _) (by show _<=(dE x.cs c o n).length;omega),λ v hv=>?_,λ v hv=>?_,ok.made,ok.two,ok.lL,by show(dE x.cs c o n).length<=_;rw[hlc];exact ok.lc,?_,?_,ok.lm,ok.lk,ok.le,?_,ok.ys,ok.gen0,ok.ms,ok.m1⟩,by simp,by show _<=(dE x.cs c o n).length;omega,bK _⟩
    ·have hv':v∈dE x.cs c o n:=hv
     unfold dE at hv'
     split at hv'
     ·rcases List.mem_or_eq_of_mem_set hv' with h|h
      ·exact ok.cs v h
      ·rw[h];exact hn
     ·exact ok.cs v hv'
    ·rcases List.mem_append.1 hv with hv|hv
     ·exact ok.got v hv
     ·rw[List.mem_singleton.1 hv];exact hb2
    ·show(x.got++[Uk q.1]).length<=_
     rw[List.length_append,List.length_cons,List.length_nil];omega
    ·show x.a+1<=(x.got++[Uk q.1]).length
     have:=ok.la
     rw[List.length_append,List.length_cons,List.length_nil];omega
    ·show x.fr-1<=1
     have:=ok.fr;omega
end
end
end Go.Proofs.YtbajmaoegmbfgaaGreat
