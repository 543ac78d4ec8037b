/- Executions of the reference: cells, generations. -/
import Derived.Test.YtadnboagdhcedaaGreatDoorGEx1

set_option linter.unusedSimpArgs false
set_option linter.unusedVariables false
namespace Go.Proofs.YtadnboagdhcedaaGreatDoor
section
open Go Go.RowKit Go.Ct
theorem Lh:dE Tryz.prog 27=some (.int .i64 0):=by kernel_rfl
theorem B9:dR Tryz.prog 111 27 [.int .i64 0]:=pW (by kernel_rfl) Lh rfl
section
variable{k:Cl}{bx bm:Nat}{x:XS}{dn:Bool}{rs:Rs}{D:List Nat}{A:Fr}{w:World}
theorem ie(i:Int)(h:x.st=true)(hs:SF w D (xH k bx bm x dn rs) A [] (xW x) w):Calls Tryz.prog 126 #[.pointer (some ⟨bx,0,none⟩),.int .i64 i] w λ e w'=>∃q:Unit,e=.returned (.int .i64 0)/\True/\SF w D (xH k bx bm x dn rs) [] [] (xW x) w':=by
 refine enter Tryz.func126 Tryz.ntmps126 rfl rfl (cA hs) ?_
 simp only[cR]
 refine Jb ?_;refine Kc4 ?_
 refine aZ (λ c8=>?_) (λ c8=>?_)
 ·refine cN ?_
  refine aN Tryz.results126 (λ w hw=>?_)
  exact⟨(),rfl,trivial,hw.aU⟩
 ·exact absurd (h.symm.trans c8) (by decide)
theorem Bs(i:Int)(h:x.st=false)(h1:x.c<x.cel.length)(hl:x.cel.length<=274877906944)(hs:SF w D (xH k bx bm x dn rs) A [] (xW x) w):Calls Tryz.prog 126 #[.pointer (some ⟨bx,0,none⟩),.int .i64 i] w λ e w'=>∃q:Unit,e=.returned (.int .i64 (x.cel.getD x.c 0))/\True/\SF w D (xH k bx bm {x with c:=x.c+1} dn rs) [] [] (xW {x with c:=x.c+1}) w':=by
 refine enter Tryz.func126 Tryz.ntmps126 rfl rfl (cA hs) ?_
 simp only[cR]
 refine Jb ?_;refine Kc4 ?_
 refine aZ (λ c8=>?_) (λ c8=>?_)
 ·try (exfalso;omega)
  exact absurd (h.symm.trans c8) (by decide)
 ·try (exfalso;omega)
  refine jD ?_;refine aS ?_;refine gB [0,1,2,3,4,5,6,7,8,9] ?_;refine Ey ?_;refine oI ?_;refine tG ?_;refine dV ?_
  refine aZ (λ c18=>?_) (λ c18=>?_)
  ·try (exfalso;omega)
  ·try (exfalso;omega)
   refine sw ?_;refine aE (mL (m:=x.c) (n:=1) rf rf (by omega)) rfl ?_;refine Jv ?_;refine kL (by exact uX λ _=>dU rf fN wn rf fX rf rf yD) (λ _=>?_);refine Xs ?_;refine gB [0,1,2,3,4,5,6,7,8,9,10,11] ?_;refine Ey ?_;refine cJ (i:=8) (hq:=(iJ (m:=x.c+1) (n:=1) rf rf (by omega) (by omega))) (h:=?_);refine bM (i:=9) (hq:=(bX (m:=x.cel.length) (k:=x.c+1-1) (lst:=x.cel) rf rf fK fX (.own (.tail (.tail .head))) (by omega) (by omega))) (h:=?_);refine bM (i:=10) (hq:=(cP (q:=x.c+1-1) (lst:=x.cel) rf fX (.own (.tail (.tail .head))) (by omega))) (h:=?_);refine J7 ?_
   refine aN Tryz.results126 (λ w hw=>?_)
   exact⟨(),by rw[Nat.add_sub_cancel];rfl,trivial,hw.aU⟩
theorem Xg(i:Int)(h:x.st=false)(h1:x.c=x.cel.length)(hl:x.cel.length<=137438953472)(hcl:x.cs.length<=274877906900)(hs:SF w D (xH k bx bm x dn rs) A [] (xW x) w):Calls Tryz.prog 126 #[.pointer (some ⟨bx,0,none⟩),.int .i64 i] w λ e w'=>∃q:(Option Addr×Nat)×(Option Addr×Nat),e=.returned (.int .i64 ((x.cs.length+1:Nat):Int))/\True /\
   SF w D (xH k bx bm {x with cs:=x.cs++[i],pc:=q.1.1,cc:=q.1.2,cel:=x.cel++[((x.cs.length+1:Nat):Int)],pl:=q.2.1,kl:=q.2.2,c:=x.c+1} dn rs) [] [] (xW {x with cs:=x.cs++[i],pc:=q.1.1,cc:=q.1.2,cel:=x.cel++[((x.cs.length+1:Nat):Int)],pl:=q.2.1,kl:=q.2.2,c:=x.c+1}) w':=by
 refine enter Tryz.func126 Tryz.ntmps126 rfl rfl (cA hs) ?_
 simp only[cR]
 refine Jb ?_;refine Kc4 ?_
 refine aZ (λ c8=>?_) (λ c8=>?_)
 ·try (exfalso;omega)
  exact absurd (h.symm.trans c8) (by decide)
 ·try (exfalso;omega)
  refine jD ?_;refine aS ?_;refine gB [0,1,2,3,4,5,6,7,8,9] ?_;refine Ey ?_;refine oI ?_;refine tG ?_;refine dV ?_
  refine aZ (λ c18=>?_) (λ c18=>?_)
  ·try (exfalso;omega)
   refine eD [(0,[]),(1,[]),(2,[]),(3,[]),(4,[]),(5,[]),(6,[]),(7,[]),(8,[]),(9,[]),(10,[4]),(11,[4]),(12,[]),(13,[]),(14,[]),(15,[])] ?_;refine aT ?_;refine Ey ?_;refine aT ?_;refine bS (i:=10) (hq:=(cM (hc:=λ w hs=>iI (L:=x.L) (cs:=x.cs) i hs (by omega)))) (h:=λ x29 h29=>?_);refine dG (i:=11) (hq:=((by exact Lq (λ _=>cS (cs:=aG [((x.cs.length+1:Nat):Int)]) B9 L9 rfl rfl rfl rfl rfl)))) (h:=λ x30=>?_);((refine dG (i:=12) (hq:=(bH.fG (qT (l:=x.cel) (m:=x.cel.length) rf rf (.tail (.tail .head)) rfl fin (by exact B9) fK (by omega)) yA)) (h:=λ x31=>?_);try (refine fP (λ h31=>?_))));refine J4 ?_;refine mT (i:=15) (hq:=(by exact uX λ _=>dU rf fN wn rf fX rf rf yD)) (h:=λ _=>?_);refine dV ?_;refine mV ?_;refine aE (mL (m:=x.c) (n:=1) rf rf (by omega)) rfl ?_;refine Jv ?_;refine kL (by exact uX λ _=>dU rf fN wn rf fX rf rf yD) (λ _=>?_);refine Xs ?_;refine gB [0,1,2,3,4,5,6,7,8,9,10,11] ?_;refine Ey ?_;refine cJ (i:=8) (hq:=(iJ (m:=x.c+1) (n:=1) rf rf (by omega) (by omega))) (h:=?_);refine bM (i:=9) (hq:=(bX (m:=x.cel.length+1) (k:=x.c+1-1) rf rf fK fX (.own (.tail (.tail .head))) (by omega) (by rw[List.length_append,List.length_cons,List.length_nil];omega))) (h:=?_);refine bM (i:=10) (hq:=(cP (q:=x.c+1-1) rf fX (.own (.tail (.tail .head))) (by rw[List.length_append,List.length_cons,List.length_nil];omega))) (h:=?_);refine J7 ?_
   refine aN Tryz.results126 (λ w hw=>?_)
   rw[show x.cel.length+1=(x.cel++[((x.cs.length+1:Nat):Int)]).length by simp] at hw
   exact⟨(x29,x31),by rw[show x.c+1-1=x.cel.length by omega,pP];rfl,trivial,hw.aU⟩
  ·try (exfalso;omega)
theorem m9(h:x.st=true)(hs:SF w D (xH k bx bm x dn rs) A [] (xW x) w):Calls Tryz.prog 128 #[.pointer (some ⟨bx,0,none⟩)] w λ e w'=>∃q:Unit,e=.returned (.int .i64 0)/\True/\SF w D (xH k bx bm x dn rs) [] [] (xW x) w':=by
 refine enter Tryz.func128 Tryz.ntmps128 rfl rfl (cA hs) ?_
 simp only[cR]
 refine Jb ?_;refine Kc4 ?_
 refine aZ (λ c6=>?_) (λ c6=>?_)
 ·refine cN ?_
  refine aN Tryz.results128 (λ w hw=>?_)
  exact⟨(),rfl,trivial,hw.aU⟩
 ·exact absurd (h.symm.trans c6) (by decide)
theorem Ik(h:x.st=false)(h1:x.g<x.gns.length)(hl:x.gns.length<=274877906944)(hs:SF w D (xH k bx bm x dn rs) A [] (xW x) w):Calls Tryz.prog 128 #[.pointer (some ⟨bx,0,none⟩)] w λ e w'=>∃q:Unit,e=.returned (.int .i64 (x.gns.getD x.g 0))/\True/\SF w D (xH k bx bm {x with g:=x.g+1} dn rs) [] [] (xW {x with g:=x.g+1}) w':=by
 refine enter Tryz.func128 Tryz.ntmps128 rfl rfl (cA hs) ?_
 simp only[cR]
 refine Jb ?_;refine Kc4 ?_
 refine aZ (λ c6=>?_) (λ c6=>?_)
 ·try (exfalso;omega)
  exact absurd (h.symm.trans c6) (by decide)
 ·try (exfalso;omega)
  refine jD ?_;refine aS ?_;refine gB [0,1,2,3,4,5,6,7,8,9] ?_;refine Ey ?_;refine oI ?_;refine tG ?_;refine dV ?_
  refine aZ (λ c16=>?_) (λ c16=>?_)
  ·try (exfalso;omega)
  ·try (exfalso;omega)
   refine sw ?_;refine aE (mL (m:=x.g) (n:=1) rf rf (by omega)) rfl ?_;refine Jv ?_;refine kL (by exact uX λ _=>dU rf fN wn rf fX rf rf yD) (λ _=>?_);refine Xs ?_;refine gB [0,1,2,3,4,5,6,7,8,9,10,11] ?_;refine Ey ?_;refine cJ (i:=8) (hq:=(iJ (m:=x.g+1) (n:=1) rf rf (by omega) (by omega))) (h:=?_);refine bM (i:=9) (hq:=(bX (m:=x.gns.length) (k:=x.g+1-1) (lst:=x.gns) rf rf fK fX (.own (.tail (.tail (.tail .head)))) (by omega) (by omega))) (h:=?_);refine bM (i:=10) (hq:=(cP (q:=x.g+1-1) (lst:=x.gns) rf fX (.own (.tail (.tail (.tail .head)))) (by omega))) (h:=?_);refine J7 ?_
   refine aN Tryz.results128 (λ w hw=>?_)
   exact⟨(),by rw[Nat.add_sub_cancel];rfl,trivial,hw.aU⟩
theorem Z8(h:x.st=false)(h1:x.g=x.gns.length)(hl:x.gns.length<=137438953472)(hgn : -1<=x.gen/\x.gen<=137438953600)(hs:SF w D (xH k bx bm x dn rs) A [] (xW x) w):Calls Tryz.prog 128 #[.pointer (some ⟨bx,0,none⟩)] w λ e w'=>∃q:Option Addr×Nat,e=.returned (.int .i64 (x.gen+1))/\True /\
   SF w D (xH k bx bm {x with gen:=x.gen+1,gns:=x.gns++[x.gen+1],pe:=q.1,ke:=q.2,g:=x.g+1} dn rs) [] [] (xW {x with gen:=x.gen+1,gns:=x.gns++[x.gen+1],pe:=q.1,ke:=q.2,g:=x.g+1}) w':=by
 have hup:up x.gen=x.gen+1:=wrap_i64 (by omega) (by omega)
 refine enter Tryz.func128 Tryz.ntmps128 rfl rfl (cA hs) ?_
 simp only[cR]
 refine Jb ?_;refine Kc4 ?_
 refine aZ (λ c6=>?_) (λ c6=>?_)
 ·try (exfalso;omega)
  exact absurd (h.symm.trans c6) (by decide)
 ·try (exfalso;omega)
  refine jD ?_;refine aS ?_;refine gB [0,1,2,3,4,5,6,7,8,9] ?_;refine Ey ?_;refine oI ?_;refine tG ?_;refine dV ?_
  refine aZ (λ c16=>?_) (λ c16=>?_)
  ·try (exfalso;omega)
   refine eD [(0,[]),(1,[]),(2,[]),(3,[]),(4,[]),(5,[]),(6,[]),(7,[]),(8,[]),(9,[4]),(10,[4]),(11,[]),(12,[]),(13,[]),(14,[])] ?_;refine aT ?_;refine Ey ?_;refine bS (i:=9) (hq:=(cM (hc:=λ w hs=>E9 (L:=x.L) (cs:=x.cs) (gen:=x.gen) hs))) (h:=λ x26 h26=>?_);refine cQ (h:=λ x27=>?_);((refine dG (i:=11) (hq:=(bH.fG (qT (l:=x.gns) (m:=x.gns.length) rf rf (.tail (.tail (.tail .head))) rfl fin (by exact B1) fK (by omega)) yA)) (h:=λ x28=>?_);try (refine fP (λ h28=>?_))));refine J4 ?_;refine mT (i:=14) (hq:=(by exact uX λ _=>dU rf fN wn rf fX rf rf yD)) (h:=λ _=>?_);refine dV ?_;refine mV ?_;refine aE (mL (m:=x.g) (n:=1) rf rf (by omega)) rfl ?_;refine Jv ?_;refine kL (by exact uX λ _=>dU rf fN wn rf fX rf rf yD) (λ _=>?_);refine Xs ?_;refine gB [0,1,2,3,4,5,6,7,8,9,10,11] ?_;refine Ey ?_;refine cJ (i:=8) (hq:=(iJ (m:=x.g+1) (n:=1) rf rf (by omega) (by omega))) (h:=?_);refine bM (i:=9) (hq:=(bX (m:=x.gns.length+1) (k:=x.g+1-1) rf rf fK fX (.own (.tail (.tail (.tail .head)))) (by omega) (by rw[List.length_append,List.length_cons,List.length_nil];omega))) (h:=?_);refine bM (i:=10) (hq:=(cP (q:=x.g+1-1) rf fX (.own (.tail (.tail (.tail .head)))) (by rw[List.length_append,List.length_cons,List.length_nil];omega))) (h:=?_);refine J7 ?_
   refine aN Tryz.results128 (λ w hw=>?_)
   rw[hup,show x.gns.length+1=(x.gns++[x.gen+1]).length by simp] at hw
   exact⟨x28,by rw[show x.g+1-1=x.gns.length by omega,pP,hup];rfl,trivial,hw.aU⟩
  ·try (exfalso;omega)
end
end

/- Executions of the reference: what the small methods do to the rest of the call. -/
end Go.Proofs.YtadnboagdhcedaaGreatDoor
namespace Go.Ct
section
open Go Go.RowKit
section
variable{g:Gx}{x:XS}{N:List aK}
theorem XS.Ok.j7(h:x.Ok){y:XS}(e1:y.L=x.L)(e2:y.cs=x.cs)(e3:y.got=x.got)(e4:y.made=x.made)(e5:y.cel=x.cel)(e6:y.gns=x.gns)(ha:y.a<=x.got.length)(hm:y.m<=x.made.length)(hc:y.c<=x.cel.length)(hg:y.g<=x.gns.length)(hf:y.fr<=1)(e7:y.gen=x.gen:=by rfl):y.Ok :=
 ⟨by rw[e1];exact h.fit,by rw[e1,e2];exact h.nd,by rw[e1,e2];exact h.cs,by rw[e1,e3];exact h.got,by rw[e1,e4];exact h.made,by rw[e1];exact h.two,by rw[e1];exact h.lL,by rw[e2];exact h.lc,by rw[e3];exact h.lg,by rw[e3];exact ha,by rw[e4];exact hm,by rw[e5];exact hc,by rw[e6];exact hg,hf,by rw[e1];exact h.ys,by rw[e7];exact h.gen0,by rw[e4];exact h.ms,by rw[e4];exact h.m1⟩
theorem Nx.st{t:Tr}(hs:x.st=true)(go:eU g x t)(ok:x.Ok){t':Tr}:Nx g x x [] t' 0:=⟨go.bO hs,ok,by simp,Nat.le_refl _,bE _⟩
theorem Nx.cC{x':XS}{t t':Tr}{b b':Int}(h:Nx g x x' N t b)(go:eU g x' t')(hb:b'<=x'.L.length):Nx g x x' N t' b':=⟨go,h.ok,h.ext,h.lc,hb⟩
theorem Nx.len{x':XS}{t:Tr}{b:Int}(h:Nx g x x' N t b):x.L.length<=x'.L.length:=by rw[h.ext,List.length_append];omega
theorem Nx.trans{x1 x2:XS}{N1 N2:List aK}{t1 t2:Tr}{b1 b2:Int}(h1:Nx g x x1 N1 t1 b1)(h2:Nx g x1 x2 N2 t2 b2):Nx g x x2 (N1++N2) t2 b2:=⟨h2.go,h2.ok,by rw[h2.ext,h1.ext,List.append_assoc],Nat.le_trans h1.lc h2.lc,h2.bd⟩
theorem Nx.ext'{x':XS}{t t':Tr}{b b':Int}(h:Nx g x x' (N++[]) t b)(go:eU g x' t')(hb:b'<=x'.L.length):Nx g x x' N t' b':=⟨go,h.ok,by have:=h.ext;rwa [List.append_nil] at this,h.lc,hb⟩
theorem Nx.start{t:Tr}(go:eU g x t)(ok:x.Ok):Nx g x x [] t 0:=⟨go,ok,by simp,Nat.le_refl _,bE _⟩
end
end
end Go.Ct
namespace Go.Proofs.YtadnboagdhcedaaGreatDoor
section
open Go Go.RowKit Go.Ct
section
variable{k:Cl}{bx bm:Nat}{x:XS}{dn:Bool}{rs:Rs}{D:List Nat}{A:Fr}{w:World}{g:Gx}
theorem nM(hg:g.Ok)(c:Int)(K:Int->Tr)(hc:c<=9223372036854775807)(go:eU g x (.load c K))(ok:x.Ok)(hs:SF w D (xH k bx bm x dn rs) A [] (xW x) w):Calls Tryz.prog 109 #[.pointer (some ⟨bx,0,none⟩),.int .i64 c] w λ e w'=>∃q:Int×XS,e=.returned (.int .i64 q.1)/\Nx g x q.2 [] (K q.1) q.1/\SF w D (xH k bx bm q.2 dn rs) [] [] (xW q.2) w':=by
 cases hst:x.st with
 | true=>exact(bi c ok hst hs).mono λ e w' ⟨_,q1,_,q3⟩=>⟨(0,x),q1,Nx.st hst go ok,q3⟩
 | false =>
  have hgd:=go.run hst
  by_cases h1:x.a<x.got.length
  ·refine(Ds c ok hst h1 hs).mono λ e w' ⟨_,q1,_,q3⟩=>⟨(x.got.getD x.a 0,{x with a:=x.a+1}),q1,?_,q3⟩
   exact⟨.inl ⟨hst,hgd.Ds h1⟩,ok.j7 rfl rfl rfl rfl rfl rfl h1 ok.lm ok.lk ok.le ok.fr,by simp,Nat.le_refl _,lO ok.got _⟩
  ·have hat:=hgd.gv h1
   by_cases h2:x.fr=0
   ·refine(iz c ok hst h1 h2 hs).mono λ e w' ⟨_,q1,_,q3⟩=>⟨(0,{x with st:=true,nx:=⟨1,c,0,0⟩}),q1,?_,q3⟩
    have hgo:eU g {x with st:=true,nx:=⟨1,c,0,0⟩} (.load c K):=hat.stop h2 rfl rfl rfl rfl rfl rfl rfl rfl rfl
    exact⟨hgo.bO rfl,ok.j7 rfl rfl rfl rfl rfl rfl ok.la ok.lm ok.lk ok.le ok.fr,by simp,Nat.le_refl _,bE _⟩
   ·refine(Xi c hc ok hst h1 h2 hs).mono λ e w' ⟨q,q1,_,q3⟩=>⟨(bW x.cs c,{x with fr:=x.fr-1,acc:=up x.acc,got:=x.got++[bW x.cs c],pg:=q.1,kg:=q.2,a:=x.a+1}),q1,?_,q3⟩
    have hN:=hat.hN
    have hgN:=hg.hN
    have hgo:eU g {x with fr:=x.fr-1,acc:=up x.acc,got:=x.got++[bW x.cs c],pg:=q.1,kg:=q.2,a:=x.a+1} (K (bW x.cs c)):=hat.now (by omega) (λ L=>Wk.kv _) (.load c K x.mm) hst rfl rfl rfl rfl rfl rfl rfl rfl rfl rfl
    refine⟨hgo,⟨ok.fit,ok.nd,ok.cs,λ v hv=>?_,ok.made,ok.two,ok.lL,ok.lc,?_,?_,ok.lm,ok.lk,ok.le,?_,ok.ys,ok.gen0,ok.ms,ok.m1⟩,by simp,Nat.le_refl _,ok.cell c⟩
    ·rcases List.mem_append.1 hv with hv|hv
     ·exact ok.got v hv
     ·rw[List.mem_singleton.1 hv];exact ok.cell c
    ·show(x.got++[bW x.cs c]).length<=_
     rw[List.length_append,List.length_cons,List.length_nil];omega
    ·show x.a+1<=(x.got++[bW x.cs c]).length
     have:=ok.la
     rw[List.length_append,List.length_cons,List.length_nil];omega
    ·show x.fr-1<=1
     have:=ok.fr;omega
theorem sV(hg:g.Ok)(c o n:Int)(K:Bool->Tr)(hc:c<=9223372036854775807)(hn:n<=x.L.length)(go:eU g x (.nW c o n K))(ok:x.Ok)(hs:SF w D (xH k bx bm x dn rs) A [] (xW x) w):Calls Tryz.prog 111 #[.pointer (some ⟨bx,0,none⟩),.int .i64 c,.int .i64 o,.int .i64 n] w λ e w'=>∃q:Bool×XS,e=.returned (.bool q.1)/\Nx g x q.2 [] (K q.1) 0/\SF w D (xH k bx bm q.2 dn rs) [] [] (xW q.2) w':=by
 cases hst:x.st with
 | true=>exact(ob c o n ok hst hs).mono λ e w' ⟨_,q1,_,q3⟩=>⟨(false,x),q1,Nx.st hst go ok,q3⟩
 | false =>
  have hgd:=go.run hst
  by_cases h1:x.a<x.got.length
  ·refine(Gz c o n ok hst h1 hs).mono λ e w' ⟨_,q1,_,q3⟩=>⟨(x.got.getD x.a 0==1,{x with a:=x.a+1}),q1,?_,q3⟩
   exact⟨.inl ⟨hst,hgd.Gz h1⟩,ok.j7 rfl rfl rfl rfl rfl rfl h1 ok.lm ok.lk ok.le ok.fr,by simp,Nat.le_refl _,bE _⟩
  ·have hat:=hgd.o8 h1
   by_cases h2:x.fr=0
   ·refine(rn c o n ok hst h1 h2 hs).mono λ e w' ⟨_,q1,_,q3⟩=>⟨(false,{x with st:=true,nx:=⟨2,c,o,n⟩}),q1,?_,q3⟩
    have hgo:eU g {x with st:=true,nx:=⟨2,c,o,n⟩} (.nW c o n K):=hat.stop h2 rfl rfl rfl rfl rfl rfl rfl rfl rfl
    exact⟨hgo.bO rfl,ok.j7 rfl rfl rfl rfl rfl rfl ok.la ok.lm ok.lk ok.le ok.fr,by simp,Nat.le_refl _,bE _⟩
   ·refine(aq c o n hc ok hst h1 h2 hs).mono λ e w' ⟨q,q1,hb,q3⟩=>⟨(q.1,{x with fr:=x.fr-1,cs:=fU x.cs c o n,acc:=up x.acc,got:=x.got++[M7 q.1],pg:=q.2.1,kg:=q.2.2,a:=x.a+1}),q1,?_,q3⟩
    have hN:=hat.hN
    have hgN:=hg.hN
    have hb1:(M7 q.1==1)=q.1:=by cases q.1<;>rfl
    have hb2:M7 q.1<=x.L.length:=by have:=ok.two;cases q.1<;>simp only[M7]<;>(omega)
    have hlc:=jX (cs:=x.cs) (c:=c) (bL:=o) (new:=n)
    have hgo:eU g {x with fr:=x.fr-1,cs:=fU x.cs c o n,acc:=up x.acc,got:=x.got++[M7 q.1],pg:=q.2.1,kg:=q.2.2,a:=x.a+1} (K q.1):=hat.now (v:=M7 q.1) (by omega) (λ L=>by have:=Wk.ud (L:=L) (c:=c) (o:=o) (n:=n) (k:=K) (M7 q.1);rw[hb1] at this;exact this) (.nW c o n K x.mm q.1 hb) hst rfl rfl rfl rfl rfl rfl rfl rfl rfl rfl
    refine⟨hgo,⟨ok.fit,λ v hv=>(ok.nd v hv).mono (Nat.le_refl _) (by show _<=(fU x.cs c o n).length;omega),λ v hv=>?_,λ v hv=>?_,ok.made,ok.two,ok.lL,by show(fU x.cs c o n).length<=_;rw[hlc];exact ok.lc,?_,?_,ok.lm,ok.lk,ok.le,?_,ok.ys,ok.gen0,ok.ms,ok.m1⟩,by simp,by show _<=(fU x.cs c o n).length;omega,bE _⟩
    ·have hv':v∈fU x.cs c o n:=hv
     unfold fU at hv'
     split at hv'
     ·rcases List.mem_or_eq_of_mem_set hv' with h|h
      ·exact ok.cs v h
      ·rw[h];exact hn
     ·exact ok.cs v hv'
    ·rcases List.mem_append.1 hv with hv|hv
     ·exact ok.got v hv
     ·rw[List.mem_singleton.1 hv];exact hb2
    ·show(x.got++[M7 q.1]).length<=_
     rw[List.length_append,List.length_cons,List.length_nil];omega
    ·show x.a+1<=(x.got++[M7 q.1]).length
     have:=ok.la
     rw[List.length_append,List.length_cons,List.length_nil];omega
    ·show x.fr-1<=1
     have:=ok.fr;omega
end
end

end Go.Proofs.YtadnboagdhcedaaGreatDoor
