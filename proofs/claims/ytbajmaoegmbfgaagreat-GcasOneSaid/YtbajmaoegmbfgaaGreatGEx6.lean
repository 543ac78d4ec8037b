/- Merged. -/
import Derived.Test.YtbajmaoegmbfgaaGreatGEx1
set_option linter.unusedSimpArgs false
set_option linter.unusedVariables false
namespace Go.Proofs.YtbajmaoegmbfgaaGreat
open Go.Proofs.Tryz (prog)
open Go Go.RowKit Go.Ct
section
section
variable{k:Cl}{bx bm:Nat}{x:XS}{dn:Bool}{rs:Rs}{D:List Nat}{A:Fr}{w:World}{g:Gx}
def AlS(x:XS)(r:Int)(x':XS):Prop:=x.st=false->x'.st=false/\x'.m=x.m+1/\x'.made.getD x.m 0=r/\x.m<x'.made.length/\r=if x.m=x.made.length then((x.L.length+1:Nat):Int) else x.made.getD x.m 0
theorem Kk{l:List Int}{v:Int}:(l++[v]).getD l.length 0=v:=by simp[iU]
theorem uw{l:List Int}{n:Nat}(h:∀v∈l,v<=n)(hs:∀i j:Nat,i<j->j<l.length->l.getD i 0<l.getD j 0):∀i j:Nat,i<j->j<(l++[((n+1:Nat):Int)]).length->(l++[((n+1:Nat):Int)]).getD i 0<(l++[((n+1:Nat):Int)]).getD j 0:=by
 intro i j hij hj
 have e:∀k,k<l.length->(l++[((n+1:Nat):Int)]).getD k 0=l.getD k 0:=λ k hk=>by rw[iU,iU,List.getElem?_append_left hk]
 rw[List.length_append,List.length_singleton] at hj
 by_cases h2:j<l.length
 ·rw[e i (by omega),e j h2];exact hs i j hij h2
 ·have:j=l.length:=by omega
  subst this
  rw[e i hij,Kk]
  have:=mQ h i
  omega
theorem Xh(hg:g.Ok){n:Nd}{xs:List Int}{ys:List Pr}(i:Int)(K:Int->Tr)(e1:n.brN=xs.length)(e2:n.prN=ys.length)(hx:xs.length<=274877906944)(hy:ys.length<=x.L.length+1)(hb:mC x.L.length x.cs.length {n.c xs ys with main:=0,prev:=0,status:=0})(hi:i<=x.L.length)(go:gE g x (.alloc (n.c xs ys) i K))(ok:x.Ok)(hs:SF w D (xH k bx bm x dn rs) [(n.brA,aH xs),(n.prA,cX ys)] [] (xW x) w) :
  Calls prog 215 #[.pointer (some ⟨bx,0,none⟩),n.v,.int .i64 i] w λ e w'=>∃q:Int×XS×List aQ,e=.returned (.int .i64 q.1)/\(Nx g x q.2.1 q.2.2 (K q.1) q.1/\AlS x q.1 q.2.1)/\SF w D (xH k bx bm q.2.1 dn rs) [] (aN q.2.2) (xW q.2.1) w':=by
 have hlL:=ok.lL
 cases hst:x.st with
 | true=>exact(nj i hst hs).mono λ e w' ⟨_,q1,_,q3⟩=>⟨(0,x,[]),q1,⟨Nx.st hst go ok,λ h=>by rw[hst] at h;cases h⟩,q3⟩
 | false =>
  have hgd:=go.run hst
  by_cases h1:x.m=x.made.length
  ·have hat:=hgd.dw h1
   obtain⟨tn,c,t1,t2,t3,t4,t5,t6,t7,t8⟩:=hat.room hg
   cases c with
   | zero=>exact t1.elim
   | succ c =>
    refine(Za i ok hst h1 t6 (by omega) (by omega) e1 e2 (by omega) (by omega) hs).mono λ e w' ⟨q,q1,_,q3⟩=>⟨(((x.L.length+1:Nat):Int),{x with L:=x.L++[mZ n xs ys x.cs.length q.1],cs:=eZ n.kind x.cs i,pn:=q.1.pn,cn:=q.1.cn,pc:=q.1.pc,cc:=q.1.cc,made:=x.made++[((x.L.length+1:Nat):Int)],pm:=q.2.1,km:=q.2.2,m:=x.m+1},[mZ n xs ys x.cs.length q.1]),q1,?_,?_⟩
    ·have hlen:(x.L++[mZ n xs ys x.cs.length q.1]).length=x.L.length+1:=by simp
     have hcs:=jY (k:=n.kind) (cs:=x.cs) (init:=i)
     have hgo:gE g {x with L:=x.L++[mZ n xs ys x.cs.length q.1],cs:=eZ n.kind x.cs i,pn:=q.1.pn,cn:=q.1.cn,pc:=q.1.pc,cc:=q.1.cc,made:=x.made++[((x.L.length+1:Nat):Int)],pm:=q.2.1,km:=q.2.2,m:=x.m+1} (K ((x.L.length+1:Nat):Int)) :=
      hat.gF (ms:=[((x.L.length+1:Nat):Int)]) (cl:=[]) (gn:=[]) (N:=[mZ n xs ys x.cs.length q.1]) (λ L=>Wk.dz _) (by
       have:=Sp.alloc (n.c xs ys) i K x.mm
       have hl:x.mm.nodes.length=x.L.length:=by simp[XS.mm]
       rw[hl] at this
       have e:x.mm.push (n.c xs ys) i=XS.mm {x with L:=x.L++[mZ n xs ys x.cs.length q.1],cs:=eZ n.kind x.cs i,pn:=q.1.pn,cn:=q.1.cn,pc:=q.1.pc,cc:=q.1.cc,made:=x.made++[((x.L.length+1:Nat):Int)],pm:=q.2.1,km:=q.2.2,m:=x.m+1}:=by
        unfold Mm.push XS.mm
        simp only[List.map_append]
        rfl
       rw[<- e]
       exact this) hst rfl rfl (by simp) (by simp) rfl rfl rfl rfl rfl rfl
     refine⟨⟨hgo,⟨λ v hv=>?_,λ v hv=>?_,λ v hv=>?_,λ v hv=>?_,λ v hv=>?_,?_,?_,?_,ok.lg,ok.la,?_,ok.lk,ok.le,ok.fr,λ v hv=>?_,ok.gen0,?_,?_⟩,rfl,hcs.1,?_⟩,λ _=>⟨hst,rfl,by show(x.made++[_]).getD x.m 0=_;rw[h1];exact Kk,by show x.m<(x.made++[_]).length;rw[List.length_append,List.length_singleton];omega,by rw[if_pos h1]⟩⟩
     ·rcases List.mem_append.1 hv with hv|hv
      ·exact ok.fit v hv
      ·rw[List.mem_singleton.1 hv];exact Ma (by omega) (by omega)
     ·show mC (x.L++[mZ n xs ys x.cs.length q.1]).length (eZ n.kind x.cs i).length v.c
      rcases List.mem_append.1 hv with hv|hv
      ·exact(ok.nd v hv).mono (by omega) hcs.1
      ·rw[List.mem_singleton.1 hv]
       have hb':=hb.mono (n':=(x.L++[mZ n xs ys x.cs.length q.1]).length) (c':=(eZ n.kind x.cs i).length) (by omega) hcs.1
       refine⟨hb'.bK,hb'.exp,hb'.new,hb'.br,?_,?_,?_,hb'.bm,hb'.hash⟩
       ·show(if n.kind=2 then((x.cs.length+1:Nat):Int) else 0)<=_
        split
        ·rename_i hk;unfold eZ;rw[if_pos (.inl hk)];simp
        ·omega
       ·show(if n.kind=3∨n.kind=5∨n.kind=6 then((x.cs.length+1:Nat):Int) else 0)<=_
        split
        ·rename_i hk;unfold eZ;rw[if_pos (by omega)];simp
        ·omega
       ·show(if n.kind=8 then((x.cs.length+1:Nat):Int) else 0)<=_
        split
        ·rename_i hk;unfold eZ;rw[if_pos (by omega)];simp
        ·omega
     ·show v<=((x.L++[mZ n xs ys x.cs.length q.1]).length:Int)
      have hv':v∈eZ n.kind x.cs i:=hv
      unfold eZ at hv'
      split at hv'
      ·rcases List.mem_append.1 hv' with h|h
       ·have:=ok.cs v h;omega
       ·rw[List.mem_singleton.1 h];omega
      ·have:=ok.cs v hv';omega
     ·have:=ok.got v hv
      show v<=((x.L++[mZ n xs ys x.cs.length q.1]).length:Int);omega
     ·show v<=((x.L++[mZ n xs ys x.cs.length q.1]).length:Int)
      rcases List.mem_append.1 hv with hv|hv
      ·have:=ok.made v hv;omega
      ·rw[List.mem_singleton.1 hv];omega
     ·have:=ok.two
      show 2<=(x.L++[mZ n xs ys x.cs.length q.1]).length;omega
     ·show(x.L++[mZ n xs ys x.cs.length q.1]).length<=_;omega
     ·show(eZ n.kind x.cs i).length<=_;omega
     ·show x.m+1<=(x.made++[((x.L.length+1:Nat):Int)]).length
      rw[List.length_append,List.length_cons,List.length_nil];omega
     ·show v.ys.length<=(x.L++[mZ n xs ys x.cs.length q.1]).length
      rcases List.mem_append.1 hv with hv|hv
      ·have:=ok.ys v hv;omega
      ·rw[List.mem_singleton.1 hv]
       show ys.length<=_
       omega
     ·show ∀i j:Nat,i<j->j<(x.made++[((x.L.length+1:Nat):Int)]).length->(x.made++[((x.L.length+1:Nat):Int)]).getD i 0<(x.made++[((x.L.length+1:Nat):Int)]).getD j 0
      exact uw ok.made ok.ms
     ·show ∀v∈x.made++[((x.L.length+1:Nat):Int)],1<=v
      intro v hv
      rcases List.mem_append.1 hv with hv|hv
      ·exact ok.m1 v hv
      ·rw[List.mem_singleton.1 hv];omega
     ·show((x.L.length+1:Nat):Int)<=((x.L++[mZ n xs ys x.cs.length q.1]).length:Int);omega
    ·have e:aN [mZ n xs ys x.cs.length q.1]=(mZ n xs ys x.cs.length q.1).fr:=by simp[aN]
     rw[e]
     exact q3
  ·have h2:x.m<x.made.length:=by have:=ok.lm;omega
   have hml:x.made.length<=274877906944:=by
    obtain⟨R,hR⟩:=hgd
    obtain⟨c2,_,_,u3⟩:=hR.full.vQ (Nat.le_refl 64) hg.vQ (by have:=hR.hN;omega)
    have:=hg.hN
    have:=hR.hN
    omega
   refine(alloc_old i ok hst h2 hml hs).mono λ e w' ⟨_,q1,_,q3⟩=>⟨(x.made.getD x.m 0,{x with m:=x.m+1},[]),q1,?_,q3⟩
   exact⟨⟨.inl ⟨hst,hgd.alloc_old h2⟩,ok.xf rfl rfl rfl rfl rfl rfl ok.la h2 ok.lk ok.le ok.fr,by simp,Nat.le_refl _,mQ ok.made _⟩,λ _=>⟨hst,rfl,rfl,h2,by rw[if_neg h1]⟩⟩
theorem gX(hg:g.Ok){n:Nd}{xs:List Int}{ys:List Pr}(i:Int)(K:Int->Tr)(e1:n.brN=xs.length)(e2:n.prN=ys.length)(hx:xs.length<=274877906944)(hy:ys.length<=x.L.length+1)(hb:mC x.L.length x.cs.length {n.c xs ys with main:=0,prev:=0,status:=0})(hi:i<=x.L.length)(go:gE g x (.alloc (n.c xs ys) i K))(ok:x.Ok)(hs:SF w D (xH k bx bm x dn rs) [(n.brA,aH xs),(n.prA,cX ys)] [] (xW x) w) :
  Calls prog 215 #[.pointer (some ⟨bx,0,none⟩),n.v,.int .i64 i] w λ e w'=>∃q:Int×XS×List aQ,e=.returned (.int .i64 q.1)/\Nx g x q.2.1 q.2.2 (K q.1) q.1/\SF w D (xH k bx bm q.2.1 dn rs) [] (aN q.2.2) (xW q.2.1) w':=by
 exact(Xh hg i K e1 e2 hx hy hb hi go ok hs).mono λ e w' ⟨q,q1,q2,q3⟩=>⟨q,q1,q2.1,q3⟩
theorem Tp(hg:g.Ok)(i:Int)(K:Int->Tr)(hi:i<=x.L.length)(go:gE g x (.cell i K))(ok:x.Ok)(hs:SF w D (xH k bx bm x dn rs) A [] (xW x) w):Calls prog 228 #[.pointer (some ⟨bx,0,none⟩),.int .i64 i] w λ e w'=>∃q:Int×XS,e=.returned (.int .i64 q.1)/\Nx g x q.2 [] (K q.1) 0/\SF w D (xH k bx bm q.2 dn rs) [] [] (xW q.2) w':=by
 cases hst:x.st with
 | true=>exact(o7 i hst hs).mono λ e w' ⟨_,q1,_,q3⟩=>⟨(0,x),q1,Nx.st hst go ok,q3⟩
 | false =>
  have hgd:=go.run hst
  by_cases h1:x.c=x.cel.length
  ·have hat:=hgd.sk h1
   obtain⟨tn,c,t1,t2,t3,t4,t5,t6,t7,t8⟩:=hat.room hg
   cases c with
   | zero=>exact t1.elim
   | succ c =>
    refine(nl i hst h1 t7 (by omega) hs).mono λ e w' ⟨q,q1,_,q3⟩=>⟨(((x.cs.length+1:Nat):Int),{x with cs:=x.cs++[i],pc:=q.1.1,cc:=q.1.2,cel:=x.cel++[((x.cs.length+1:Nat):Int)],pl:=q.2.1,kl:=q.2.2,c:=x.c+1}),q1,?_,q3⟩
    have hgo:gE g {x with cs:=x.cs++[i],pc:=q.1.1,cc:=q.1.2,cel:=x.cel++[((x.cs.length+1:Nat):Int)],pl:=q.2.1,kl:=q.2.2,c:=x.c+1} (K ((x.cs.length+1:Nat):Int)) :=
     hat.gF (ms:=[]) (cl:=[((x.cs.length+1:Nat):Int)]) (gn:=[]) (N:=[]) (λ L=>Wk.Ka _) (Sp.cell i K x.mm) hst rfl (by simp) rfl (by simp) (by simp) rfl rfl rfl rfl rfl
    have hlc:(x.cs++[i]).length=x.cs.length+1:=by simp
    refine⟨hgo,⟨ok.fit,λ v hv=>(ok.nd v hv).mono (Nat.le_refl _) (by show _<=(x.cs++[i]).length;omega),λ v hv=>?_,ok.got,ok.made,ok.two,ok.lL,by show(x.cs++[i]).length<=_;omega,ok.lg,ok.la,ok.lm,?_,ok.le,ok.fr,ok.ys,ok.gen0,ok.ms,ok.m1⟩,by simp,by show _<=(x.cs++[i]).length;omega,bL _⟩
    ·rcases List.mem_append.1 hv with h|h
     ·exact ok.cs v h
     ·rw[List.mem_singleton.1 h];exact hi
    ·show x.c+1<=(x.cel++[((x.cs.length+1:Nat):Int)]).length
     rw[List.length_append,List.length_cons,List.length_nil];omega
  ·have h2:x.c<x.cel.length:=by have:=ok.lk;omega
   have hml:x.cel.length<=274877906944:=by
    obtain⟨R,hR⟩:=hgd
    obtain⟨c2,_,_,u3⟩:=hR.full.vQ (Nat.le_refl 64) hg.vQ (by have:=hR.hN;omega)
    have:=hg.hN
    have:=hR.hN
    omega
   refine(Hd i hst h2 hml hs).mono λ e w' ⟨_,q1,_,q3⟩=>⟨(x.cel.getD x.c 0,{x with c:=x.c+1}),q1,?_,q3⟩
   exact⟨.inl ⟨hst,hgd.Hd h2⟩,ok.xf rfl rfl rfl rfl rfl rfl ok.la ok.lm h2 ok.le ok.fr,by simp,Nat.le_refl _,bL _⟩
theorem iy(hg:g.Ok)(K:Int->Tr)(go:gE g x (.gen K))(ok:x.Ok)(hs:SF w D (xH k bx bm x dn rs) A [] (xW x) w):Calls prog 230 #[.pointer (some ⟨bx,0,none⟩)] w λ e w'=>∃q:Int×XS,e=.returned (.int .i64 q.1)/\Nx g x q.2 [] (K q.1) 0/\SF w D (xH k bx bm q.2 dn rs) [] [] (xW q.2) w':=by
 cases hst:x.st with
 | true=>exact(yd hst hs).mono λ e w' ⟨_,q1,_,q3⟩=>⟨(0,x),q1,Nx.st hst go ok,q3⟩
 | false =>
  have hgd:=go.run hst
  by_cases h1:x.g=x.gns.length
  ·have hat:=hgd.yx h1
   obtain⟨tn,c,t1,t2,t3,t4,t5,t6,t7,t8⟩:=hat.room hg
   cases c with
   | zero=>exact t1.elim
   | succ c =>
    refine(se hst h1 t8 ⟨by have:=ok.gen0;omega,by omega⟩ hs).mono λ e w' ⟨q,q1,_,q3⟩=>⟨(x.gen+1,{x with gen:=x.gen+1,gns:=x.gns++[x.gen+1],pe:=q.1,ke:=q.2,g:=x.g+1}),q1,?_,q3⟩
    have hgo:gE g {x with gen:=x.gen+1,gns:=x.gns++[x.gen+1],pe:=q.1,ke:=q.2,g:=x.g+1} (K (x.gen+1)) :=
     hat.gF (ms:=[]) (cl:=[]) (gn:=[x.gen+1]) (N:=[]) (λ L=>Wk.aBQ _) (Sp.gen K x.mm) hst rfl (by simp) (by simp) rfl (by simp) rfl rfl rfl rfl rfl
    refine⟨hgo,⟨ok.fit,ok.nd,ok.cs,ok.got,ok.made,ok.two,ok.lL,ok.lc,ok.lg,ok.la,ok.lm,ok.lk,?_,ok.fr,ok.ys,?_,ok.ms,ok.m1⟩,by simp,Nat.le_refl _,bL _⟩
    ·show x.g+1<=(x.gns++[x.gen+1]).length
     rw[List.length_append,List.length_cons,List.length_nil];omega
    ·show 0<=x.gen+1
     have:=ok.gen0;omega
  ·have h2:x.g<x.gns.length:=by have:=ok.le;omega
   have hml:x.gns.length<=274877906944:=by
    obtain⟨R,hR⟩:=hgd
    obtain⟨c2,_,_,u3⟩:=hR.full.vQ (Nat.le_refl 64) hg.vQ (by have:=hR.hN;omega)
    have:=hg.hN
    have:=hR.hN
    omega
   refine(Lx hst h2 hml hs).mono λ e w' ⟨_,q1,_,q3⟩=>⟨(x.gns.getD x.g 0,{x with g:=x.g+1}),q1,?_,q3⟩
   exact⟨.inl ⟨hst,hgd.Lx h2⟩,ok.xf rfl rfl rfl rfl rfl rfl ok.la ok.lm ok.lk h2 ok.fr,by simp,Nat.le_refl _,bL _⟩
theorem cH(r:Int)(K:Nv->Tr)(hr:r<=x.L.length)(go:gE g x (.node r K))(ok:x.Ok)(hs:SF w D (xH k bx bm x dn rs) A [] (xW x) w):Calls prog 211 #[.pointer (some ⟨bx,0,none⟩),.int .i64 r] w λ e w'=>∃q:Unit,e=.returned (aC x.L r).nd.v/\(gE g x (K (aC x.L r).c)/\mC x.L.length x.cs.length (aC x.L r).c)/\SF w D (xH k bx bm x dn rs) [] [] (xW x) w':=by
 have hl:=ok.lL
 refine(fS r (by omega) ok hs).mono λ e w' ⟨q,q1,_,q3⟩=>⟨q,q1,⟨?_,ok.nv r⟩,q3⟩
 have:=go.node hr
 rw[show bA x.nodes r=(aC x.L r).c from(qX x.L r).symm] at this
 exact this
end
end
end Go.Proofs.YtbajmaoegmbfgaaGreat
namespace Go.Ct
open Go Go.RowKit
section
theorem Ch.zm{g:Gx}{x0 x x':XS}{F:Fr}{t:Tr}{b:Int}(h:Nx g x x' [] t b)(hc:Ch x0 x F):Ch x0 x' F:=by
 have:=Ch.nx h hc
 exact this
theorem mC.i64{n c:Nat}{v:aQ}(h:mC n c v.c)(hn:n<=137438953600)(hc:c<=137438953600):v.nd.bK<=9223372036854775807/\v.nd.new<=9223372036854775807/\v.nd.exp<=9223372036854775807/\v.nd.main<=9223372036854775807/\v.nd.prev<=9223372036854775807/\v.nd.status<=9223372036854775807:=by
 have h1:v.nd.bK<=n:=h.bK
 have h2:v.nd.new<=n:=h.new
 have h3:v.nd.exp<=n:=h.exp
 have h4:v.nd.main<=c:=h.main
 have h5:v.nd.prev<=c:=h.prev
 have h6:v.nd.status<=c:=h.status
 omega
end
end Go.Ct
namespace Go.Proofs.YtbajmaoegmbfgaaGreat
open Go Go.RowKit Go.Ct
section
section
variable{k:Cl}{bx bm:Nat}{x:XS}{dn:Bool}{rs:Rs}{D:List Nat}{A:Fr}{w:World}{g:Gx}
abbrev Nz(t:dU):Value:=.agg ⟨[.int .i64 t.root,.bool t.ro]⟩
theorem G8(v s:Int)(K:Int->Tr)(hv:v<=x.L.length)(go:gE g x (yv v s K))(ok:x.Ok)(hs:SF w D (xH k bx bm x dn rs) A [] (xW x) w):Calls Tryz.prog 214 #[.pointer (some ⟨bx,0,none⟩),.int .i64 v,.int .i64 s] w λ e w'=>∃q:Int,e=.returned (.int .i64 q)/\(gE g x (K q)/\q<=x.L.length)/\SF w D (xH k bx bm x dn rs) [] [] (xW x) w':=by
 refine enter Tryz.func214 Tryz.ntmps214 rfl rfl (cD hs) ?_
 simp only[cG]
 refine dA ?_;refine kT ?_;refine uQ ?_
 refine bC (λ c8=>?_) (λ c8=>?_)
 ·refine jF ?_;refine aE (cM (hs:=xH k bx bm x dn rs) (os:=xW x) (hc:=λ w hs=>cH v _ hv go ok hs)) (λ x11 h11=>?_);refine cB ?_;refine J1 ?_
  refine aT Tryz.results214 (λ w hw=>?_)
  exact⟨_,rfl,⟨h11.1.to (λ _=>by rw[if_pos (by assumption)];rfl),h11.2.new⟩,hw.aY⟩
 ·refine Du ?_;refine aE (cM (hs:=xH k bx bm x dn rs) (os:=xW x) (hc:=λ w hs=>cH v _ hv go ok hs)) (λ x15 h15=>?_);refine cB ?_;refine J1 ?_
  refine aT Tryz.results214 (λ w hw=>?_)
  exact⟨_,rfl,⟨h15.1.to (λ _=>by rw[if_neg (by assumption)];rfl),h15.2.bK⟩,hw.aY⟩
theorem yf(hg:g.Ok)(t:dU)(K:Int->Tr)(ht:t.root<=9223372036854775807)(go:gE g x (Ak t K))(ok:x.Ok)(hs:SF w D (xH k bx bm x dn rs) A [] (xW x) w):Calls Tryz.prog 239 #[.pointer (some ⟨bx,0,none⟩),Nz t] w λ e w'=>∃q:Int×XS,e=.returned (.int .i64 q.1)/\Nx g x q.2 [] (K q.1) q.1/\SF w D (xH k bx bm q.2 dn rs) [] [] (xW q.2) w':=by
 refine enter Tryz.func239 Tryz.ntmps239 rfl rfl (cD hs) ?_
 simp only[cG]
 simp only[Nz]
 refine J0 ?_;refine bM (λ x3=>?_);refine Ka4 ?_;refine J3 ?_;refine aE (cM (hs:=xH k bx bm x dn rs) (os:=xW x) (hc:=λ w hs=>qD hg t.root _ ht go ok hs)) (λ x11 h11=>?_);refine iT ?_;refine mK ?_;refine aB ?_
 (refine eI 16 (λ g16=>?_) (λ g16=>?_)<;>refine Ka0 ?_)
 all_goals (refine Ka0 ?_;(first|refine aJ ?_|(refine aF ?_;refine aE (cM (hs:=xH k bx bm x11.2 dn rs) (os:=xW x11.2) (hc:=λ w hs=>cH x11.1 _ h11.bd h11.go h11.ok hs)) (λ x19 h19=>?_)));refine J87 ?_;refine aI ?_)
 all_goals
 refine bC (λ c22=>?_) (λ c22=>?_)
 ·all_goals (refine Ka5 ?_)
  all_goals
   refine aT Tryz.results239 (λ w hw=>?_)
   exact⟨x11,rfl,h11.cI (by first|exact h11.go.bY (by assumption)|exact h19.1.to (λ _=>if_pos (by assumption))) h11.bd,hw.aY⟩
 ·try exact nv c22
  all_goals
   have g1:=h19.1.to (λ _=>if_neg c22)
   have hb1:=h19.2.i64 h11.ok.lL h11.ok.lc
  all_goals (refine Du ?_;refine aB ?_;refine aE (cM (hs:=xH k bx bm x11.2 dn rs) (os:=xW x11.2) (hc:=λ w hs=>cH x11.1 _ h11.bd g1 h11.ok hs)) (λ x27 h27=>?_);refine cB ?_;refine aE (cM (hs:=xH k bx bm x11.2 dn rs) (os:=xW x11.2) (hc:=λ w hs=>qD hg (aC x11.2.L x11.1).nd.status _ hb1.2.2.2.2.2 h27.1 h11.ok hs)) (λ x29 h29=>?_);refine iT ?_)
  all_goals
   refine eP [6,30,31,32,33,34,35,36,37,38,39,40,41,42,43] (λ q:Int×XS=>[(6,.int .i64 q.1)]) (λ q=>Nx g x q.2 [] (uW t x11.1 q.1 K) 0/\x11.1<=q.2.L.length) (λ q=>[(x3,.cells ⟨[.int .i64 t.root,.bool t.ro]⟩ 29 (0,0)),(bx,xO k bm q.2 dn rs),(bm,xM q.2)]) (λ _=>[]) (λ q=>xW q.2) (by decide) (λ _=>by exact rfl) ?_ (λ q f hx=>?_)
   ·refine aV ?_
    refine xK ?_;refine uQ ?_
    refine bC (λ c31=>?_) (λ c31=>?_)
    ·have g2:=h29.go.to (λ _=>if_pos c31)
     have hv2:x11.1<=x29.2.L.length:=by have:=h29.len;have:=h11.bd;omega
     refine Kc4 ?_;refine aE (cM (hs:=xH k bx bm x29.2 dn rs) (os:=xW x29.2) (hc:=λ w hs=>cH x11.1 _ hv2 g2 h29.ok hs)) (λ x35 h35=>?_);refine cB ?_;refine aE (cM (hs:=xH k bx bm x29.2 dn rs) (os:=xW x29.2) (hc:=λ w hs=>wR hg (aC x29.2.L x11.1).nd.status 0 2 _ (h35.2.i64 h29.ok.lL h29.ok.lc).2.2.2.2.2 (by have:=h29.ok.two;omega) h35.1 h29.ok hs)) (λ x37 h37=>?_);refine aI ?_;refine xK ?_;refine pM ?_;refine aE (cM (hs:=xH k bx bm x37.2 dn rs) (os:=xW x37.2) (hc:=λ w hs=>cH x11.1 _ (by have:=h37.len;omega) h37.go h37.ok hs)) (λ x41 h41=>?_);refine cB ?_;refine aE (cM (hs:=xH k bx bm x37.2 dn rs) (os:=xW x37.2) (hc:=λ w hs=>qD hg (aC x37.2.L x11.1).nd.status _ (h41.2.i64 h37.ok.lL h37.ok.lc).2.2.2.2.2 h41.1 h37.ok hs)) (λ x43 h43=>?_);refine J1 ?_
     refine fH (x43) ?_
     ·exact⟨(h11.trans (h29.trans (h37.trans h43))).cI h43.go (bL _),by have:=h37.len;have:=h43.len;omega⟩
    ·have g2:=h29.go.to (λ _=>if_neg c31)
     have hv2:x11.1<=x29.2.L.length:=by have:=h29.len;have:=h11.bd;omega
     refine aZ ?_
     refine fH (x29) ?_
     ·exact⟨(h11.trans h29).cI g2 (bL _),hv2⟩
   dsimp only[iC,List.map,List.cons_append,List.nil_append]
  all_goals (refine Kc4 ?_;refine aE (cM (hs:=xH k bx bm q.2 dn rs) (os:=xW q.2) (hc:=λ w hs=>G8 x11.1 q.1 _ hx.2 hx.1.go hx.1.ok hs)) (λ x47 h47=>?_);refine Ka4 ?_;refine J3 ?_;refine pM ?_;refine aE (cM (hs:=xH k bx bm q.2 dn rs) (os:=xW q.2) (hc:=λ w hs=>wR hg t.root x11.1 x47 _ ht h47.2 h47.1 hx.1.ok hs)) (λ x53 h53=>?_);refine aI ?_;refine Ka5 ?_)
  all_goals
   refine aT Tryz.results239 (λ w hw=>?_)
   exact⟨(x47,x53.2),rfl,(hx.1.trans h53).cI h53.go (by have:=h53.len;have:=h47.2;omega),hw.aY⟩
end
end
end Go.Proofs.YtbajmaoegmbfgaaGreat
namespace Go.Ct
section
theorem jj{n c:Nat}{p:Int}(h:p<=n):mC n c {(({Nd.zero with kind:=7,bK:=p}:Nd).c [] []) with main:=0,prev:=0,status:=0}:=⟨h,bL _,bL _,(λ r hr=>nomatch hr),bL _,bL _,bL _,⟨0,rfl,by decide⟩,⟨0,rfl,by decide⟩⟩
end
end Go.Ct
namespace Go.Proofs.YtbajmaoegmbfgaaGreat
open Go Go.RowKit Go.Ct
section
section
variable{k:Cl}{bx bm:Nat}{x:XS}{dn:Bool}{rs:Rs}{D:List Nat}{A:Fr}{w:World}{g:Gx}
theorem P0(hg:g.Ok)(t:dU)(i m:Int)(K:Int->Tr)(ht:t.root<=9223372036854775807)(hi:i<=x.L.length)(hm:m<=x.L.length)(go:gE g x (mY t i m K))(ok:x.Ok)(hs:SF w D (xH k bx bm x dn rs) A [] (xW x) w):Calls Tryz.prog 209 #[.pointer (some ⟨bx,0,none⟩),Nz t,.int .i64 i,.int .i64 m] w λ e w'=>∃q:Int×XS×List aQ,e=.returned (.int .i64 q.1)/\Nx g x q.2.1 q.2.2 (K q.1) q.1/\SF w D (xH k bx bm q.2.1 dn rs) [] (aN q.2.2) (xW q.2.1) w':=by
 refine enter Tryz.func209 Tryz.ntmps209 rfl rfl (cD hs) ?_
 simp only[cG]
 simp only[Nz]
 refine J0 ?_;refine bM (λ x5=>?_);refine zZ ?_;refine aB ?_;refine aE (cM (hs:=xH k bx bm x dn rs) (os:=xW x) (hc:=λ w hs=>cH m _ hm go ok hs)) (λ x14 h14=>?_);refine cB ?_;refine aE (cM (hs:=xH k bx bm x dn rs) (os:=xW x) (hc:=λ w hs=>qD hg (aC x.L m).nd.prev _ (h14.2.i64 ok.lL ok.lc).2.2.2.2.1 h14.1 ok hs)) (λ x16 h16=>?_);refine iT ?_;refine mK ?_;refine aB ?_
 (refine eI 21 (λ g21=>?_) (λ g21=>?_)<;>refine Ka0 ?_)
 all_goals (refine uM ?_;refine aI ?_)
 all_goals
 refine bC (λ c24=>?_) (λ c24=>?_)
 ·all_goals (refine Ka5 ?_)
  all_goals
   refine aT Tryz.results209 (λ w hw=>?_)
   exact⟨(m,x16.2,[]),rfl,h16.cI (by first|exact h16.go.bY (by assumption)|exact h16.go.to (λ _=>if_pos (by assumption))) (by have:=h16.len;omega),hw.v4⟩
 ·try exact nv c24
  all_goals
   have g1:=h16.go.to (λ _=>if_neg c24)
   have hl16:=h16.len
  all_goals refine kZ ?_
  all_goals
   refine eP [8,9,10,26,27,28,29,30,31,32,33,34,35,36,37,38,39,40,41,42,43,44,45,46,47,48,49,50,51,52,53,54,55,56,57,58,59,60,61,62,63,64,65,66,67,68,69,70,71,72,73,74,75,76,77] (λ q:Int×XS×List aQ=>[(9,.int .i64 q.1)]) (λ q=>Nx g x q.2.1 q.2.2 (Ih i m q.1 K) 0/\q.1<=q.2.1.L.length) (λ q=>[(x5,.cells ⟨[.int .i64 t.root,.bool t.ro]⟩ 29 (0,0)),(bx,xO k bm q.2.1 dn rs),(bm,xM q.2.1)]) (λ q=>aN q.2.2) (λ q=>xW q.2.1) (by decide) (λ _=>by exact rfl) ?_ (λ q f hx=>?_)
   ·refine aV ?_
    refine Jb ?_;refine aE (cM (hs:=xH k bx bm x16.2 dn rs) (os:=xW x16.2) (hc:=λ w hs=>cH x16.1 _ h16.bd g1 h16.ok hs)) (λ x28 h28=>?_);refine aE (c0 (V:=.bool) (hc:=λ w1 hw=>xR (aC x16.2.L x16.1).nd w1)) (λ x29 h29=>?_);refine aI ?_
    refine bC (λ c29=>?_) (λ c29=>?_)
    ·have g2:=h28.1.to (λ _=>if_pos (show bV (aC x16.2.L x16.1).c from h29.1 c29))
     refine E8 ?_
     refine eP [10,30,31,32,33,34,35,36,37,38,39,40,41,42,43] (λ y:Bool×XS=>[(10,.bool y.1)]) (λ y=>Nx g x y.2 [] (kR i m x16.1 y.1 K) 0/\x16.1<=y.2.L.length) (λ y=>[(x5,.cells ⟨[.int .i64 t.root,.bool t.ro]⟩ 29 (0,0)),(bx,xO k bm y.2 dn rs),(bm,xM y.2)]) (λ _=>[]) (λ y=>xW y.2) (by decide) (λ _=>by exact rfl) ?_ (λ y f hx=>?_)
     ·refine aV ?_
      refine dR ?_;refine J3 ?_;refine pE ?_
      refine bC (λ c32=>?_) (λ c32=>?_)
      ·have g3:=g2.to (λ _=>if_neg (by simpa using c32))
       refine Jb ?_;refine bQ ?_;refine aE (cM (hs:=xH k bx bm x16.2 dn rs) (os:=xW x16.2) (hc:=λ w hs=>yf hg t _ ht g3 h16.ok hs)) (λ x36 h36=>?_);refine aE (cM (hs:=xH k bx bm x36.2 dn rs) (os:=xW x36.2) (hc:=λ w hs=>cH x36.1 _ h36.bd h36.go h36.ok hs)) (λ x37 h37=>?_);refine cB ?_;refine pM ?_;refine aE (cM (hs:=xH k bx bm x36.2 dn rs) (os:=xW x36.2) (hc:=λ w hs=>cH i _ (by have:=h36.len;omega) h37.1 h36.ok hs)) (λ x41 h41=>?_);refine cB ?_;refine Rt ?_
       refine fH (((aC x36.2.L x36.1).nd.gen==(aC x36.2.L i).nd.gen,x36.2)) ?_
       ·exact⟨(h16.trans h36).cI h41.1 (bL _),(show x16.1<=(x36.2.L.length:Int) by have:=h36.len;have:=h16.bd;omega)⟩
      ·have g3:=g2.to (λ _=>if_pos (by simpa using c32))
       refine aZ ?_
       refine fH ((false,x16.2)) ?_
       ·exact⟨h16.cI g3 (bL _),h16.bd⟩
     dsimp only[iC,List.map,List.cons_append,List.nil_append]
     have hly:=hx.1.len
     refine aV ?_
     refine eP [44,45,46,47,48,49,50,51,52,53,54,55,56,57,58,59,60,61,62] (λ z:XS×List aQ=>[]) (λ z=>Nx g x z.1 z.2 (kI i m K) 0) (λ z=>[(x5,.cells ⟨[.int .i64 t.root,.bool t.ro]⟩ 29 (0,0)),(bx,xO k bm z.1 dn rs),(bm,xM z.1)]) (λ z=>aN z.2) (λ z=>xW z.1) (by decide) (λ _=>by exact rfl) ?_ (λ z f hx=>?_)
     ·refine aV ?_
      refine xK ?_;refine aI ?_
      refine bC (λ c44=>?_) (λ c44=>?_)
      ·have g4:=hx.1.go.to (λ _=>if_pos c44)
       refine xK ?_;refine pM ?_;refine aE (cM (hs:=xH k bx bm y.2 dn rs) (os:=xW y.2) (hc:=λ w hs=>cH m _ (by omega) g4 hx.1.ok hs)) (λ x48 h48=>?_);refine cB ?_;refine aB ?_;refine aE (cM (hs:=xH k bx bm y.2 dn rs) (os:=xW y.2) (hc:=λ w hs=>wR hg (aC y.2.L m).nd.prev x16.1 0 _ (h48.2.i64 hx.1.ok.lL hx.1.ok.lc).2.2.2.2.1 (bL _) h48.1 hx.1.ok hs)) (λ x51 h51=>?_);refine aI ?_
       refine fH ((x51.2,[])) ?_ (hw1:=λ w hw=>hw.v6)
       ·exact(hx.1.trans h51).cI h51.go (bL _)
      ·have g4:=hx.1.go.to (λ _=>if_neg (by rw[c44];decide))
       refine xK ?_;refine pM ?_;refine aE (cM (hs:=xH k bx bm y.2 dn rs) (os:=xW y.2) (hc:=λ w hs=>cH m _ (by omega) g4 hx.1.ok hs)) (λ x55 h55=>?_);refine cB ?_;refine pM ?_;refine aB ?_;refine bO ?_;refine aE (cM (hs:=xH k bx bm y.2 dn rs) (os:=xW y.2) (A0:=[(none,aH []),(none,cX [])]) (hc:=λ w hs=>gX hg (n:={Nd.zero with kind:=7,bK:=x16.1}) (xs:=[]) (ys:=[]) 0 _ rfl rfl (by decide) (Nat.zero_le _) (jj hx.2) (bL _) h55.1 hx.1.ok hs)) (λ x61 h61=>?_);refine aE (cM (hs:=xH k bx bm x61.2.1 dn rs) (os:=xW x61.2.1) (hc:=λ w hs=>wR hg (aC y.2.L m).nd.prev x16.1 x61.1 _ (h55.2.i64 hx.1.ok.lL hx.1.ok.lc).2.2.2.2.1 h61.bd h61.go h61.ok hs)) (λ x62 h62=>?_);refine aI ?_
       refine fH ((x62.2,x61.2.2)) ?_ (hw1:=λ w hw=>by rw[List.append_nil] at hw;exact hw.v6)
       ·exact(hx.1.trans (h61.trans h62)).ext' h62.go (bL _)
     dsimp only[iC,List.map,List.cons_append,List.nil_append]
     have hlz:=hx.len
     refine Kc4 ?_;refine aE (cM (hs:=xH k bx bm z.1 dn rs) (os:=xW z.1) (hc:=λ w hs=>cH m _ (by omega) hx.go hx.ok hs)) (λ x66 h66=>?_);refine cB ?_;refine aE (cM (hs:=xH k bx bm z.1 dn rs) (os:=xW z.1) (hc:=λ w hs=>qD hg (aC z.1.L m).nd.prev _ (h66.2.i64 hx.ok.lL hx.ok.lc).2.2.2.2.1 h66.1 hx.ok hs)) (λ x68 h68=>?_);refine J1 ?_;refine mK ?_;refine aB ?_
     (refine eI 73 (λ g73=>?_) (λ g73=>?_)<;>refine Ka0 ?_)
     all_goals (refine uM ?_;refine aI ?_)
     all_goals
     refine bC (λ c76=>?_) (λ c76=>?_)
     ·all_goals (refine Ka5 ?_)
      all_goals
       refine aT Tryz.results209 (λ w hw=>?_)
       exact⟨(m,x68.2,z.2),rfl,(hx.trans h68).ext' (by first|exact h68.go.bY (by assumption)|exact h68.go.to (λ _=>if_pos (by assumption))) (by have:=h68.len;omega),hw.v4⟩
     ·try exact nv c76
      all_goals
       have g5:=h68.go.to (λ _=>if_neg c76)
      all_goals refine aZ ?_
      all_goals
       refine fH ((x68.1,x68.2,z.2)) ?_ (hw1:=λ w hw=>hw.v6)
       ·exact⟨(hx.trans h68).ext' g5 (bL _),h68.bd⟩
    ·have g2:=h28.1.to (λ _=>if_neg (show ¬bV (aC x16.2.L x16.1).c from λ h=>absurd (h29.2 h) (by rw[c29];decide)))
     refine aZ ?_
     refine fH ((x16.1,x16.2,[])) ?_ (hw1:=λ w hw=>hw.v6)
     ·exact⟨h16.cI g2 (bL _),h16.bd⟩
   dsimp only[iC,List.map,List.cons_append,List.nil_append]
   have hlq:=hx.1.len
  all_goals (refine Kc4 ?_;refine aE (cM (hs:=xH k bx bm q.2.1 dn rs) (os:=xW q.2.1) (hc:=λ w hs=>cH i _ (by omega) hx.1.go hx.1.ok hs)) (λ x81 h81=>?_);refine cB ?_;refine pM ?_;refine aB ?_;refine aE (cM (hs:=xH k bx bm q.2.1 dn rs) (os:=xW q.2.1) (hc:=λ w hs=>cH q.1 _ hx.2 h81.1 hx.1.ok hs)) (λ x86 h86=>?_);refine cB ?_;refine aE (cM (hs:=xH k bx bm q.2.1 dn rs) (os:=xW q.2.1) (hc:=λ w hs=>wR hg (aC q.2.1.L i).nd.main m (aC q.2.1.L q.1).nd.bK _ (h81.2.i64 hx.1.ok.lL hx.1.ok.lc).2.2.2.1 h86.2.bK h86.1 hx.1.ok hs)) (λ x88 h88=>?_);refine aI ?_;refine jF ?_;refine aE (cM (hs:=xH k bx bm x88.2 dn rs) (os:=xW x88.2) (hc:=λ w hs=>cH q.1 _ (by have:=h88.len;omega) h88.go h88.ok hs)) (λ x91 h91=>?_);refine cB ?_;refine J1 ?_)
  all_goals
   refine aT Tryz.results209 (λ w hw=>?_)
   exact⟨((aC x88.2.L q.1).nd.bK,x88.2,q.2.2),rfl,(hx.1.trans h88).ext' h91.1 h91.2.bK,hw.v4⟩
end
end
end Go.Proofs.YtbajmaoegmbfgaaGreat
namespace Go.Ct
section
theorem ju{n c:Nat}{a b d:Int}(h1:a<=n)(h2:b<=n)(h3:d<=n):mC n c {(({Nd.zero with kind:=8,bK:=a,exp:=b,new:=d}:Nd).c [] []) with main:=0,prev:=0,status:=0}:=⟨h1,h2,h3,(λ r hr=>nomatch hr),bL _,bL _,bL _,⟨0,rfl,by decide⟩,⟨0,rfl,by decide⟩⟩
end
end Go.Ct
namespace Go.Proofs.YtbajmaoegmbfgaaGreat
open Go Go.RowKit Go.Ct
section
section
variable{k:Cl}{bx bm:Nat}{x:XS}{dn:Bool}{rs:Rs}{D:List Nat}{A:Fr}{w:World}{g:Gx}
theorem pB(hg:g.Ok)(t:dU)(i:Int)(K:Int->Tr)(ht:t.root<=9223372036854775807)(hi:i<=x.L.length)(go:gE g x (jQ t i K))(ok:x.Ok)(hs:SF w D (xH k bx bm x dn rs) A [] (xW x) w):Calls Tryz.prog 177 #[.pointer (some ⟨bx,0,none⟩),Nz t,.int .i64 i] w λ e w'=>∃q:Int×XS×List aQ,e=.returned (.int .i64 q.1)/\Nx g x q.2.1 q.2.2 (K q.1) q.1/\SF w D (xH k bx bm q.2.1 dn rs) [] (aN q.2.2) (xW q.2.1) w':=by
 refine enter Tryz.func177 Tryz.ntmps177 rfl rfl (cD hs) ?_
 simp only[cG]
 simp only[Nz]
 refine J0 ?_;refine bM (λ x4=>?_);refine iT ?_;refine eH [(0,[]),(1,[]),(2,[]),(3,[]),(4,[]),(5,[]),(6,[1]),(7,[]),(8,[1]),(9,[]),(10,[])] ?_;refine Ka9 ?_;refine iK ?_;refine iK ?_;refine bE (i:=6) (hq:=(cM (hs:=xH k bx bm x dn rs) (os:=xW x) (hc:=λ w hs=>cH i _ hi go ok hs))) (h:=λ x13 h13=>?_);refine oA ?_;refine bE (i:=8) (hq:=(cM (hs:=xH k bx bm x dn rs) (os:=xW x) (hc:=λ w hs=>qD hg (aC x.L i).nd.main _ (h13.2.i64 ok.lL ok.lc).2.2.2.1 h13.1 ok hs))) (h:=λ x15 h15=>?_);refine bE (i:=9) (hq:=(cM (hs:=xH k bx bm x15.2 dn rs) (os:=xW x15.2) (hc:=λ w hs=>P0 hg t i x15.1 _ ht (by have:=h15.len;omega) h15.bd h15.go h15.ok hs))) (h:=λ x16 h16=>?_);refine J7 ?_
 refine aT Tryz.results177 (λ w hw=>?_)
 exact⟨x16,rfl,h15.trans h16,by rw[List.append_nil] at hw;exact hw.v4⟩
theorem Oa(hg:g.Ok)(t:dU)(v:Int)(K:Tr)(ht:t.root<=9223372036854775807)(hv:v<=x.L.length)(go:gE g x (yE t v K))(ok:x.Ok)(hs:SF w D (xH k bx bm x dn rs) A [] (xW x) w):Calls Tryz.prog 213 #[.pointer (some ⟨bx,0,none⟩),Nz t,.int .i64 v] w λ e w'=>∃q:XS×List aQ,e=.returned (.tuple #[])/\Nx g x q.1 q.2 K 0/\SF w D (xH k bx bm q.1 dn rs) [] (aN q.2) (xW q.1) w':=by
 refine enter Tryz.func213 Tryz.ntmps213 rfl rfl (cD hs) ?_
 simp only[cG]
 simp only[Nz]
 refine J0 ?_;refine bM (λ x4=>?_);refine aI ?_;refine E8 ?_;refine aV ?_;refine eH [(0,[]),(1,[]),(2,[]),(3,[]),(7,[]),(8,[]),(4,[1]),(5,[]),(6,[]),(9,[]),(10,[]),(11,[])] ?_;refine Ka9 ?_;refine iK ?_;refine iK ?_;refine bE (i:=4) (hq:=(cM (hs:=xH k bx bm x dn rs) (os:=xW x) (hc:=λ w hs=>cH v _ hv go ok hs))) (h:=λ x11 h11=>?_);refine oA ?_;refine bE (i:=6) (hq:=(cM (hs:=xH k bx bm x dn rs) (os:=xW x) (hc:=λ w hs=>pB hg t (aC x.L v).nd.bK _ ht h11.2.bK h11.1 ok hs))) (h:=λ x13 h13=>?_);refine bE (i:=9) (hq:=(cM (hs:=xH k bx bm x13.2.1 dn rs) (os:=xW x13.2.1) (hc:=λ w hs=>cH v _ (by have:=h13.len;omega) h13.go h13.ok hs))) (h:=λ x16 h16=>?_);refine oA ?_;refine oJ ?_;refine eL ?_
 refine bC (λ c18=>?_) (λ c18=>?_)
 ·have gx:gE g x13.2.1 (.node v λ n3=>.jW n3.status 0 1 λ _=>K):=h16.1.to (λ _=>by rw[show x13.1=(aC x13.2.1.L v).c.exp from c18];simp only[if_true])
  have h2e:(1:Int)<=x13.2.1.L.length:=by have:=h13.ok.two;omega
  refine dR ?_;refine J1 ?_;refine xK ?_;refine pM ?_;refine aE (cM (hs:=xH k bx bm x13.2.1 dn rs) (os:=xW x13.2.1) (hc:=λ w hs=>cH v _ (by have:=h13.len;omega) gx h13.ok hs)) (λ x22 h22=>?_);refine cB ?_;refine aB ?_;(refine aP (by exact cM (hs:=xH k bx bm x13.2.1 dn rs) (os:=xW x13.2.1) (hc:=λ w hs=>wR hg (aC x13.2.1.L v).nd.status 0 1 _ (h22.2.i64 h13.ok.lL h13.ok.lc).2.2.2.2.2 h2e h22.1 h13.ok hs)) (λ x25=>?_);try (refine eY (λ h25=>?_)));refine aI ?_
  refine B6 Tryz.results213 (λ w hw=>?_)
  rw[List.append_nil] at hw
  exact⟨(x25.2,x13.2.2),rfl,(h13.trans h25).ext' h25.go (bL _),hw.v4⟩
 ·have gx:gE g x13.2.1 (.node v λ n3=>.jW n3.status 0 2 λ _=>K):=h16.1.to (λ _=>by simp only[if_neg (show ¬x13.1=(aC x13.2.1.L v).c.exp from c18)])
  have h2e:(2:Int)<=x13.2.1.L.length:=by have:=h13.ok.two;omega
  refine aZ ?_;refine xK ?_;refine pM ?_;refine aE (cM (hs:=xH k bx bm x13.2.1 dn rs) (os:=xW x13.2.1) (hc:=λ w hs=>cH v _ (by have:=h13.len;omega) gx h13.ok hs)) (λ x22 h22=>?_);refine cB ?_;refine aB ?_;(refine aP (by exact cM (hs:=xH k bx bm x13.2.1 dn rs) (os:=xW x13.2.1) (hc:=λ w hs=>wR hg (aC x13.2.1.L v).nd.status 0 2 _ (h22.2.i64 h13.ok.lL h13.ok.lc).2.2.2.2.2 h2e h22.1 h13.ok hs)) (λ x25=>?_);try (refine eY (λ h25=>?_)));refine aI ?_
  refine B6 Tryz.results213 (λ w hw=>?_)
  rw[List.append_nil] at hw
  exact⟨(x25.2,x13.2.2),rfl,(h13.trans h25).ext' h25.go (bL _),hw.v4⟩
theorem Cc(hg:g.Ok)(t:dU)(K:Int->Tr)(ht:t.root<=9223372036854775807)(go:gE g x (uP t K))(ok:x.Ok)(hs:SF w D (xH k bx bm x dn rs) A [] (xW x) w):Calls Tryz.prog 179 #[.pointer (some ⟨bx,0,none⟩),Nz t] w λ e w'=>∃q:Int×XS×List aQ,e=.returned (.int .i64 q.1)/\Nx g x q.2.1 q.2.2 (K q.1) q.1/\SF w D (xH k bx bm q.2.1 dn rs) [] (aN q.2.2) (xW q.2.1) w':=by
 refine enter Tryz.func179 Tryz.ntmps179 rfl rfl (cD hs) ?_
 simp only[cG]
 simp only[Nz]
 refine J0 ?_;refine bM (λ x3=>?_);refine Ka4 ?_;refine J3 ?_;refine aE (cM (hs:=xH k bx bm x dn rs) (os:=xW x) (hc:=λ w hs=>qD hg t.root _ ht go ok hs)) (λ x11 h11=>?_);refine iT ?_;refine mK ?_;refine aB ?_
 (refine eI 16 (λ g16=>?_) (λ g16=>?_)<;>refine Ka0 ?_)
 all_goals (refine Ka0 ?_;(first|refine aJ ?_|(refine aF ?_;refine aE (cM (hs:=xH k bx bm x11.2 dn rs) (os:=xW x11.2) (hc:=λ w hs=>cH x11.1 _ h11.bd h11.go h11.ok hs)) (λ x19 h19=>?_)));refine J87 ?_;refine aI ?_)
 all_goals
 refine bC (λ c22=>?_) (λ c22=>?_)
 ·all_goals (refine Ka5 ?_)
  all_goals
   refine aT Tryz.results179 (λ w hw=>?_)
   exact⟨(x11.1,x11.2,[]),rfl,h11.cI (by first|exact h11.go.bY (by assumption)|exact h19.1.to (λ _=>if_pos (by assumption))) h11.bd,hw.aY (hF:=by exact aX.nil)⟩
 ·try exact nv c22
  all_goals
   have g1:=h19.1.to (λ _=>if_neg c22)
   have hb1:=h19.2.i64 h11.ok.lL h11.ok.lc
  all_goals (refine Du ?_;refine aB ?_;refine aE (cM (hs:=xH k bx bm x11.2 dn rs) (os:=xW x11.2) (hc:=λ w hs=>cH x11.1 _ h11.bd g1 h11.ok hs)) (λ x27 h27=>?_);refine cB ?_;refine aE (cM (hs:=xH k bx bm x11.2 dn rs) (os:=xW x11.2) (hc:=λ w hs=>qD hg (aC x11.2.L x11.1).nd.status _ hb1.2.2.2.2.2 h27.1 h11.ok hs)) (λ x29 h29=>?_);refine iT ?_)
  all_goals
   refine eP [6,30,31,32,33,34,35,36,37,38,39,40,41] (λ q:Int×XS×List aQ=>[(6,.int .i64 q.1)]) (λ q=>Nx g x q.2.1 q.2.2 (uW t x11.1 q.1 K) 0/\x11.1<=q.2.1.L.length) (λ q=>[(x3,.cells ⟨[.int .i64 t.root,.bool t.ro]⟩ 29 (0,0)),(bx,xO k bm q.2.1 dn rs),(bm,xM q.2.1)]) (λ q=>aN q.2.2) (λ q=>xW q.2.1) (by decide) (λ _=>by exact rfl) ?_ (λ q f hx=>?_)
   ·refine aV ?_
    refine xK ?_;refine uQ ?_
    refine bC (λ c31=>?_) (λ c31=>?_)
    ·have g2:=h29.go.to (λ _=>if_pos c31)
     have hv2:x11.1<=x29.2.L.length:=by have:=h29.len;have:=h11.bd;omega
     refine Kb3 ?_;refine aB ?_;refine aE (cM (hs:=xH k bx bm x29.2 dn rs) (os:=xW x29.2) (hc:=λ w hs=>Oa hg t x11.1 _ ht hv2 g2 h29.ok hs)) (λ x35 h35=>?_);refine aI ?_;refine xK ?_;refine pM ?_;refine aE (cM (hs:=xH k bx bm x35.1 dn rs) (os:=xW x35.1) (hc:=λ w hs=>cH x11.1 _ (by have:=h35.len;omega) h35.go h35.ok hs)) (λ x39 h39=>?_);refine cB ?_;refine aE (cM (hs:=xH k bx bm x35.1 dn rs) (os:=xW x35.1) (hc:=λ w hs=>qD hg (aC x35.1.L x11.1).nd.status _ (h39.2.i64 h35.ok.lL h35.ok.lc).2.2.2.2.2 h39.1 h35.ok hs)) (λ x41 h41=>?_);refine J1 ?_
     refine fH ((x41.1,x41.2,x35.2)) ?_ (hw1:=λ w hw=>by rw[List.append_nil] at hw;exact hw.v6)
     ·exact⟨((h11.trans h29).trans (h35.trans h41)).ext' h41.go (bL _),(show x11.1<=(x41.2.L.length:Int) by have:=h35.len;have:=h41.len;omega)⟩
    ·have g2:=h29.go.to (λ _=>if_neg c31)
     have hv2:x11.1<=x29.2.L.length:=by have:=h29.len;have:=h11.bd;omega
     refine aZ ?_
     refine fH ((x29.1,x29.2,[])) ?_ (hw1:=λ w hw=>hw.back (hF:=by exact aX.nil))
     ·exact⟨(h11.trans h29).cI g2 (bL _),hv2⟩
   dsimp only[iC,List.map,List.cons_append,List.nil_append]
  all_goals (refine Kc4 ?_;refine aE (cM (hs:=xH k bx bm q.2.1 dn rs) (os:=xW q.2.1) (hc:=λ w hs=>G8 x11.1 q.1 _ hx.2 hx.1.go hx.1.ok hs)) (λ x45 h45=>?_);refine Ka4 ?_;refine J3 ?_;refine pM ?_;refine aE (cM (hs:=xH k bx bm q.2.1 dn rs) (os:=xW q.2.1) (hc:=λ w hs=>wR hg t.root x11.1 x45 _ ht h45.2 h45.1 hx.1.ok hs)) (λ x51 h51=>?_);refine aI ?_;refine Ka5 ?_)
  all_goals
   refine aT Tryz.results179 (λ w hw=>?_)
   exact⟨(x45,x51.2,q.2.2),rfl,(hx.1.trans h51).ext' h51.go (by have:=h51.len;have:=h45.2;omega),hw.v4⟩
theorem tH(hg:g.Ok)(t:dU)(i bK n:Int)(K:Bool->Tr)(ht:t.root<=9223372036854775807)(hi:i<=x.L.length)(hn:n<=x.L.length)(go:gE g x (jU t i bK n K))(ok:x.Ok)(hs:SF w D (xH k bx bm x dn rs) A [] (xW x) w):Calls Tryz.prog 178 #[.pointer (some ⟨bx,0,none⟩),Nz t,.int .i64 i,.int .i64 bK,.int .i64 n] w λ e w'=>∃q:Bool×XS×List aQ,e=.returned (.bool q.1)/\Nx g x q.2.1 q.2.2 (K q.1) 0/\SF w D (xH k bx bm q.2.1 dn rs) [] (aN q.2.2) (xW q.2.1) w':=by
 refine enter Tryz.func178 Tryz.ntmps178 rfl rfl (cD hs) ?_
 simp only[cG]
 simp only[Nz]
 refine J0 ?_;refine bM (λ x6=>?_);refine iT ?_;refine Kc4 ?_;refine aE (cM (hs:=xH k bx bm x dn rs) (os:=xW x) (hc:=λ w hs=>cH i _ hi go ok hs)) (λ x15 h15=>?_);refine cB ?_;refine pM ?_;refine aE (cM (hs:=xH k bx bm x dn rs) (os:=xW x) (hc:=λ w hs=>wR hg (aC x.L i).nd.main bK n _ (h15.2.i64 ok.lL ok.lc).2.2.2.1 hn h15.1 ok hs)) (λ x19 h19=>?_);refine pE ?_
 refine bC (λ c20=>?_) (λ c20=>?_)
 ·refine dA ?_
  refine aT Tryz.results178 (λ w hw=>?_)
  exact⟨(false,x19.2,[]),rfl,h19.cI (h19.go.to (λ _=>if_neg (by simpa using c20))) (bL _),hw.aY (hF:=by exact aX.nil)⟩
 ·have g1:=h19.go.to (λ _=>if_pos (by simpa using c20))
  have hl19:=h19.len
  refine aZ ?_;refine Kb3 ?_;refine pM ?_;refine aE (cM (hs:=xH k bx bm x19.2 dn rs) (os:=xW x19.2) (hc:=λ w hs=>P0 hg t i n _ ht (by omega) (by omega) g1 h19.ok hs)) (λ x25 h25=>?_);refine J1 ?_;refine mK ?_;refine Dg ?_
  (refine eI 31 (λ g31=>?_) (λ g31=>?_)<;>refine Ka0 ?_)
  all_goals (refine Ka0 ?_;refine uM ?_;refine J1 ?_)
  all_goals
  refine aT Tryz.results178 (λ w hw=>?_)
  rw[List.append_nil] at hw
  first
   | exact⟨(x25.1==n,x25.2.1,x25.2.2),rfl,(h19.trans h25).cI h25.go (bL _),hw.v4⟩
   | exact⟨(false,x25.2.1,x25.2.2),rfl,(h19.trans h25).cI (h25.go.bY (by assumption)) (bL _),hw.v4⟩
end
end
end Go.Proofs.YtbajmaoegmbfgaaGreat
namespace Go.Ct
open Go Go.RowKit
section
theorem Ch.to{g:Gx}{x0 x X:XS}{F:Fr}{N:List aQ}{t t':Tr}{b b':Int}(h:Ch x0 X F)(h2:Nx g x X N t b)(go:gE g X t')(hc:x0.cs.length<=X.cs.length)(hb:b'<=X.L.length):∃N,Nx g x0 X N t' b'/\∀f∈aN N,f.2=[]∨f∈F:=by
 obtain⟨N,h3,h4⟩:=h
 exact⟨N,⟨go,h2.ok,h3,hc,hb⟩,h4⟩
theorem XS.Ok.sN{w0 w:World}{M:List Nat}{H:List (Nat×Obj)}{A F:Fr}{O:List Ow}{x:XS}(ok:x.Ok)(h:SF w0 M H A F O w)(hA:∀f∈aN x.L,f∈A)(r:Int):sG w (aC x.L r).nd (aC x.L r).xs (aC x.L r).ys:=h.jl (Ch.base (F:=F)) hA ok r
end
end Go.Ct
namespace Go.Proofs.YtbajmaoegmbfgaaGreat
open Go.Proofs.Tryz (prog)
open Go Go.RowKit Go.Ct
section
structure wQ(n:Nat)(o:Option (Nat×List Int)):Prop where
 out:∀q,o=some q->q.1<18446744073709551616/\q.2.length<=64/\∀r∈q.2,r<=n
theorem ab{b:Nat}{xs:List Int}(h:BV b xs):xs.length<=64:=by rw[h.len];exact zH b 64
theorem pu{xs:List Int}{p:Nat}{r v:Int}(h:v∈qU xs p r):v∈xs∨v=r:=by
 unfold qU at h
 rcases List.mem_append.1 h with h|h
 ·exact .inl (List.mem_of_mem_take h)
 ·rcases List.mem_cons.1 h with h|h
  ·exact .inr h
  ·exact .inl (List.mem_of_mem_drop h)
theorem pz{xs:List Int}{p:Nat}{r v:Int}(h:v∈xI xs p r):v∈xs∨v=r:=by
 unfold xI at h
 rcases List.mem_append.1 h with h|h
 ·exact .inl (List.mem_of_mem_take h)
 ·rcases List.mem_cons.1 h with h|h
  ·exact .inr h
  ·exact .inl (List.mem_of_mem_drop h)
theorem sf{xs:List Int}{p:Nat}{v:Int}(h:v∈sJ xs p):v∈xs:=by
 unfold sJ at h
 rcases List.mem_append.1 h with h|h
 ·exact List.mem_of_mem_take h
 ·exact List.mem_of_mem_drop h
section
variable{n:Nd}{xs:List Int}{ys:List Pr}{b m:Nat}
theorem uj(hb:n.bm=(b:Int))(hb2:b<18446744073709551616)(hx:∀r∈xs,r<=m){r:Int}(hr:r<=m)(i:Int):wQ m (oo n xs ys b i r):=⟨λ q hq=>by
 unfold oo at hq
 split at hq
 ·rename_i h
  cases hq
  obtain⟨h1,h2,h3⟩:=h
  have hv:=h1.bv hb hb2
  obtain⟨e1,e2,e3,e4⟩:=sC h3
  have:=(Uw hv (i:=i.toNat) (by omega) e3 h2).1
  rw[<- e4] at this
  exact⟨this.lt,ab this,λ v hv=>(pu hv).elim (hx v) (λ e=>e▸hr)⟩
 ·cases hq⟩
theorem p9(hb:n.bm=(b:Int))(hb2:b<18446744073709551616)(hx:∀r∈xs,r<=m){r:Int}(hr:r<=m)(i:Int):wQ m (oh n xs ys b i r):=⟨λ q hq=>by
 unfold oh at hq
 split at hq
 ·rename_i h
  cases hq
  obtain⟨h1,h0,h2,h3⟩:=h
  have hv:=h1.bv hb hb2
  have e:i=((i.toNat:Nat):Int):=by omega
  have hk:i.toNat<64:=by omega
  rw[e] at h3 ⊢
  rw[qQ b hk] at h3
  have:=(Hn hv (i:=i.toNat) hk h3 h2).1
  rw[pN b hk,oS b hk]
  exact⟨this.lt,ab this,λ v hv=>(pz hv).elim (hx v) (λ e=>e▸hr)⟩
 ·cases hq⟩
theorem sv(hb:n.bm=(b:Int))(hb2:b<18446744073709551616)(hx:∀r∈xs,r<=m)(i:Int):wQ m (oi n xs ys b i):=⟨λ q hq=>by
 unfold oi at hq
 split at hq
 ·rename_i h
  cases hq
  obtain⟨h1,h3⟩:=h
  have hv:=h1.bv hb hb2
  obtain⟨e1,e2,e3,e4⟩:=sC h3
  have hk:i.toNat<64:=by omega
  have:=(Tv hv (i:=i.toNat) hk e3).1
  have e:i=((i.toNat:Nat):Int):=by omega
  rw[e,tM b hk,oS b hk]
  exact⟨this.lt,ab this,λ v hv=>hx v (sf hv)⟩
 ·cases hq⟩
end
theorem wQ.nvB{m c:Nat}{o:Option (Nat×List Int)}(h:wQ m o)(x:Option Addr×Nat):mC m c {(nB o x).c (mI o) [] with main:=0,prev:=0,status:=0}:=by
 rw[Hb]
 cases o with
 | none=>exact⟨bL _,bL _,bL _,(λ r hr=>nomatch hr),bL _,bL _,bL _,⟨0,rfl,by decide⟩,⟨0,rfl,by decide⟩⟩
 | some q =>
  have h1:=h.out q rfl
  exact⟨bL _,bL _,bL _,h1.2.2,bL _,bL _,bL _,⟨q.1,rfl,h1.1⟩,⟨0,rfl,by decide⟩⟩
theorem wQ.len{m:Nat}{o:Option (Nat×List Int)}(h:wQ m o):(mI o).length<=274877906944:=by
 cases o with
 | none=>exact Nat.zero_le _
 | some q=>exact Nat.le_trans (h.out q rfl).2.1 (by decide)
theorem E5(o:Option (Nat×List Int))(x:Option Addr×Nat):(nB o x).brN=(mI o).length:=by cases o<;>rfl
theorem Ek(o:Option (Nat×List Int))(x:Option Addr×Nat):(nB o x).prN=([]:List Pr).length:=by cases o<;>rfl
theorem Tf{A F:Fr}{O:List Ow}{o:Option (Nat×List Int)}{x:Option Addr×Nat}:bH A ((x.1,aH (mI o))::F) O [((nB o x).brA,aH (mI o)),((nB o x).prA,cX [])]:=by
 cases o with
 | none=>exact .cons (.inl rfl) (.cons (.inl rfl) .nil)
 | some q=>exact .cons (.inr (.inr (.inl (.head _)))) (.cons (.inl rfl) .nil)
section
variable{v:aQ}{n c:Nat}{w:World}
theorem fI(h:mC n c v.c):v.nd.bm=((v.c.bm.toNat:Nat):Int)/\v.c.bm.toNat<18446744073709551616:=by
 obtain⟨b,h1,h2⟩:=h.bm
 have h3:v.nd.bm=(b:Int):=h1
 have h4:v.c.bm=(b:Int):=h1
 rw[h3,h4]
 exact⟨by simp,by simpa using h2⟩
theorem Ld(h:mC n c v.c)(i:Int)(hr:sG w v.nd v.xs v.ys):Calls prog 216 #[v.nd.v,.int .i64 i] w λ e w'=>e=.returned (.tuple #[.int .i64 ((lI v.c i).getD 0),.bool (lI v.c i).isSome])/\St w [] [] w':=by
 have h1:=fI h
 have:=oP (n:=v.nd) i h1.1 h1.2 hr
 rw[aB8 h1.1 i] at this
 exact this
theorem pU(h:mC n c v.c)(i:Int):(lI v.c i).getD 0<=n:=by
 have h1:=fI h
 have e:=aB8 (xs:=v.xs) (ys:=v.ys) h1.1 i
 rw[show lI v.c i=lI (v.nd.c v.xs v.ys) i from rfl,<- e]
 unfold Mk
 split
 ·exact mQ h.br _
 ·exact bL _
noncomputable abbrev Rq (v:aQ) (i r:Int):Option (Nat×List Int):=oo v.nd v.xs v.ys v.c.bm.toNat i r
noncomputable abbrev Zy (v:aQ) (i r:Int):Option (Nat×List Int):=oh v.nd v.xs v.ys v.c.bm.toNat i r
noncomputable abbrev Z3 (v:aQ) (i:Int):Option (Nat×List Int):=oi v.nd v.xs v.ys v.c.bm.toNat i
theorem aB4(h:mC n c v.c)(i r:Int)(x:Option Addr×Nat):Ue v.c i r=(nB (Rq v i r) x).c (mI (Rq v i r)) []:=by
 rw[Hb]
 exact(aCh (fI h).1 i r).symm
theorem aBr(h:mC n c v.c)(i r:Int)(x:Option Addr×Nat):zx v.c i r=(nB (Zy v i r) x).c (mI (Zy v i r)) []:=by
 rw[Hb]
 exact(aCD (fI h).1 i r).symm
theorem wa(h:mC n c v.c)(i:Int)(x:Option Addr×Nat):N4 v.c i=(nB (Z3 v i) x).c (mI (Z3 v i)) []:=by
 rw[Hb]
 exact(aBD (fI h).1 i).symm
theorem v7(h:mC n c v.c)(i r:Int)(hr:sG w v.nd v.xs v.ys):Calls prog 220 #[v.nd.v,.int .i64 i,.int .i64 r] w (X6 w (Rq v i r)):=Mi (n:=v.nd) i r (fI h).1 (fI h).2 hr
theorem dm(h:mC n c v.c)(i r:Int)(hr:sG w v.nd v.xs v.ys):Calls prog 249 #[v.nd.v,.int .i64 i,.int .i64 r] w (X6 w (Zy v i r)):=Ja (n:=v.nd) i r (fI h).1 (fI h).2 hr
theorem aBU(h:mC n c v.c)(i:Int)(hr:sG w v.nd v.xs v.ys):Calls prog 252 #[v.nd.v,.int .i64 i] w (X6 w (Z3 v i)):=No (n:=v.nd) i (fI h).1 (fI h).2 hr
theorem ik(h:mC n c v.c){r:Int}(hr:r<=n)(i:Int):wQ n (Rq v i r):=uj (fI h).1 (fI h).2 h.br hr i
theorem aCr(h:mC n c v.c){r:Int}(hr:r<=n)(i:Int):wQ n (Zy v i r):=p9 (fI h).1 (fI h).2 h.br hr i
theorem aBG(h:mC n c v.c)(i:Int):wQ n (Z3 v i):=sv (fI h).1 (fI h).2 h.br i
end
theorem sL{n c:Nat}{g:Int}:mC n c {(({Nd.zero with kind:=2,gen:=g}:Nd).c [] []) with main:=0,prev:=0,status:=0}:=⟨bL _,bL _,bL _,(λ r hr=>nomatch hr),bL _,bL _,bL _,⟨0,rfl,by decide⟩,⟨0,rfl,by decide⟩⟩
section
variable{k:Cl}{bx bm:Nat}{x:XS}{dn:Bool}{rs:Rs}{D:List Nat}{A:Fr}{w:World}{g:Gx}
theorem Ln(hg:g.Ok)(t:dU)(o ex n:Int)(K:Bool->Tr)(ht:t.root<=9223372036854775807)(ho:o<=x.L.length)(he:ex<=x.L.length)(hn:n<=x.L.length)(go:gE g x (vV t o ex n K))(ok:x.Ok)(hs:SF w D (xH k bx bm x dn rs) A [] (xW x) w):Calls prog 180 #[.pointer (some ⟨bx,0,none⟩),Nz t,.int .i64 o,.int .i64 ex,.int .i64 n] w λ e w'=>∃q:Bool×XS×List aQ,e=.returned (.bool q.1)/\Nx g x q.2.1 q.2.2 (K q.1) 0/\SF w D (xH k bx bm q.2.1 dn rs) [] (aN q.2.2) (xW q.2.1) w':=by
 refine enter Tryz.func180 Tryz.ntmps180 rfl rfl (cD hs) ?_
 simp only[cG]
 simp only[Nz]
 refine J0 ?_;refine bM (λ x6=>?_);refine zZ ?_;refine pM ?_;refine bO ?_;refine aE (cM (hs:=xH k bx bm x dn rs) (os:=xW x) (A0:=[(none,aH []),(none,cX [])]) (hc:=λ w hs=>gX hg (n:={Nd.zero with kind:=8,bK:=o,exp:=ex,new:=n}) (xs:=[]) (ys:=[]) 0 _ rfl rfl (by decide) (Nat.zero_le _) (ju ho he hn) (bL _) go ok hs)) (λ x18 h18=>?_);refine Kc2 ?_;refine J3 ?_;refine pM ?_;refine aE (cM (hs:=xH k bx bm x18.2.1 dn rs) (os:=xW x18.2.1) (hc:=λ w hs=>wR hg t.root o x18.1 _ ht h18.bd h18.go h18.ok hs)) (λ x24 h24=>?_);refine pE ?_
 refine bC (λ c25=>?_) (λ c25=>?_)
 ·refine dA ?_
  refine aT Tryz.results180 (λ w hw=>?_)
  obtain⟨N,hN,hf⟩:=(Ch.base (F:=[])).nx h18 |>.zm h24 |>.to h24 (h24.go.to (λ _=>if_neg (by simpa using c25))) (by have:=h18.lc;have:=h24.lc;omega) (bL _)
  exact⟨(false,x24.2,N),rfl,hN,(hw.eX hf).v4⟩
 ·have g1:=h24.go.to (λ _=>if_pos (by simpa using c25))
  have hl24:=h24.len
  have hb18:=h18.bd
  refine aZ ?_;refine Kb3 ?_;refine aB ?_;refine aE (cM (hs:=xH k bx bm x24.2 dn rs) (os:=xW x24.2) (hc:=λ w hs=>Oa hg t x18.1 _ ht (by omega) g1 h24.ok hs)) (λ x29 h29=>?_);refine aI ?_;refine Kc4 ?_;refine aE (cM (hs:=xH k bx bm x29.1 dn rs) (os:=xW x29.1) (hc:=λ w hs=>cH x18.1 _ (by have:=h29.len;omega) h29.go h29.ok hs)) (λ x33 h33=>?_);refine cB ?_;refine aE (cM (hs:=xH k bx bm x29.1 dn rs) (os:=xW x29.1) (hc:=λ w hs=>qD hg (aC x29.1.L x18.1).nd.status _ (h33.2.i64 h29.ok.lL h29.ok.lc).2.2.2.2.2 h33.1 h29.ok hs)) (λ x35 h35=>?_);refine iT ?_;refine eH [(0,[]),(1,[]),(2,[]),(3,[]),(4,[]),(5,[]),(6,[]),(7,[2]),(8,[])] ?_;refine aR ?_;refine lK ?_;refine iK ?_;refine iK ?_;refine bE (i:=7) (hq:=(cM (hs:=xH k bx bm x35.2 dn rs) (os:=xW x35.2) (hc:=λ w hs=>G8 x18.1 x35.1 _ (by have:=h29.len;have:=h35.len;omega) h35.go h35.ok hs))) (h:=λ x43 h43=>?_);refine bE (i:=8) (hq:=(cM (hs:=xH k bx bm x35.2 dn rs) (os:=xW x35.2) (hc:=λ w hs=>wR hg t.root x18.1 x43 _ ht h43.2 h43.1 h35.ok hs))) (h:=λ x44 h44=>?_);refine eL ?_;refine mK ?_;refine Dg ?_
  (refine eI 50 (λ g50=>?_) (λ g50=>?_)<;>refine Ka0 ?_)
  all_goals (refine uM ?_;refine J1 ?_)
  all_goals
  refine aT Tryz.results180 (λ w hw=>?_)
  first
   | (obtain⟨N,hN,hf⟩:=(Ch.nx h29 ((Ch.base (F:=[])).nx h18 |>.zm h24)) |>.zm h35 |>.zm h44 |>.to h44 h44.go (by have:=h18.lc;have:=h24.lc;have:=h29.lc;have:=h35.lc;have:=h44.lc;omega) (bL _);exact⟨(x35.1==1,x44.2,N),rfl,hN,(hw.eX hf).v4⟩)
   | (obtain⟨N,hN,hf⟩:=(Ch.nx h29 ((Ch.base (F:=[])).nx h18 |>.zm h24)) |>.zm h35 |>.zm h44 |>.to (t':=K false) h44 (h44.go.bY (by assumption)) (by have:=h18.lc;have:=h24.lc;have:=h29.lc;have:=h35.lc;have:=h44.lc;omega) (bL _);exact⟨(false,x44.2,N),rfl,hN,(hw.eX hf).v4⟩)
theorem Bx(hg:g.Ok)(c index r:Int)(K:Int->Tr)(hc:c<=x.L.length)(hr:r<=x.L.length)(hA:∀f∈aN x.L,f∈A)(go:gE g x (Ht c index r K))(ok:x.Ok)(hs:SF w D (xH k bx bm x dn rs) A [] (xW x) w):Calls prog 217 #[.pointer (some ⟨bx,0,none⟩),.int .i64 c,.int .i64 index,.int .i64 r] w λ e w'=>∃q:Int×XS×List aQ,e=.returned (.int .i64 q.1)/\Nx g x q.2.1 q.2.2 (K q.1) q.1/\SF w D (xH k bx bm q.2.1 dn rs) [] (aN q.2.2) (xW q.2.1) w':=by
 refine enter Tryz.func217 Tryz.ntmps217 rfl rfl (cD hs) ?_
 simp only[cG]
 refine dA ?_;refine jF ?_;refine aE (cM (hs:=xH k bx bm x dn rs) (os:=xW x) (hc:=λ w hs=>cH c _ hc go ok hs)) (λ x14 h14=>?_);refine pM ?_;refine aE (cF (hc:=λ w1 hw=>v7 (v:=aC x.L c) (ok.nv c) index r (ok.sN hw hA c))) (λ x17 h17=>?_);refine Nu ?_;refine aL (λ x9=>?_);refine Cg ?_;refine Kb3 ?_;refine aB ?_;refine aE (cM (hs:=xH k bx bm x dn rs) (os:=xW x) (A0:=[((nB (Rq (aC x.L c) index r) x17).brA,aH (mI (Rq (aC x.L c) index r))),((nB (Rq (aC x.L c) index r) x17).prA,cX [])]) (hA:=Tf) (hc:=λ w hs=>gX hg (n:=nB (Rq (aC x.L c) index r) x17) (xs:=mI (Rq (aC x.L c) index r)) (ys:=[]) c _ (E5 _ _) (Ek _ _) (ik (ok.nv c) hr index).len (Nat.zero_le _) ((ik (ok.nv c) hr index).nvB _) hc (by rw[<- aB4 (ok.nv c)];exact h14.1) ok hs)) (λ x23 h23=>?_);refine J1 ?_
 refine aT Tryz.results217 (λ w hw=>?_)
 exact⟨x23,rfl,h23,hw.aY (hF:=by exact aX.iV λ f hf=>List.mem_append_left _ hf)⟩
end
end
end Go.Proofs.YtbajmaoegmbfgaaGreat
