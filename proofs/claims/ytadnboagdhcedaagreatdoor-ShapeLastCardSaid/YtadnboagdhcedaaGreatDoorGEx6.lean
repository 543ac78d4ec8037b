/- Executions of the reference: allocations, cells, generations, lookups along trees; calls. -/
import Derived.Test.YtadnboagdhcedaaGreatDoorGEx4

set_option linter.unusedSimpArgs false
set_option linter.unusedVariables false
namespace Go.Proofs.YtadnboagdhcedaaGreatDoor
section
open Go Go.RowKit Go.Ct
section
variable{k:Cl}{bx bm:Nat}{x:XS}{dn:Bool}{rs:Rs}{D:List Nat}{A:Fr}{w:World}{g:Gx}
def ye(x:XS)(r:Int)(x':XS):Prop:=x.st=false->x'.st=false/\x'.m=x.m+1/\x'.made.getD x.m 0=r/\x.m<x'.made.length/\r=if x.m=x.made.length then((x.L.length+1:Nat):Int) else x.made.getD x.m 0
theorem Fw{l:List Int}{v:Int}:(l++[v]).getD l.length 0=v:=by simp[fQ]
theorem eh{l:List Int}{n:Nat}(h:∀v∈l,v<=n)(hs:∀i j:Nat,i<j->j<l.length->l.getD i 0<l.getD j 0):∀i j:Nat,i<j->j<(l++[((n+1:Nat):Int)]).length->(l++[((n+1:Nat):Int)]).getD i 0<(l++[((n+1:Nat):Int)]).getD j 0:=by
 intro i j hij hj
 have e:∀k,k<l.length->(l++[((n+1:Nat):Int)]).getD k 0=l.getD k 0:=λ k hk=>by rw[fQ,fQ,List.getElem?_append_left hk]
 rw[List.length_append,List.length_singleton] at hj
 by_cases h2:j<l.length
 ·rw[e i (by omega),e j h2];exact hs i j hij h2
 ·have:j=l.length:=by omega
  subst this
  rw[e i hij,Fw]
  have:=lO h i
  omega
theorem Pw(hg:g.Ok){n:Nd}{xs:List Int}{ys:List Pr}(i:Int)(K:Int->Tr)(e1:n.brN=xs.length)(e2:n.prN=ys.length)(hx:xs.length<=274877906944)(hy:ys.length<=x.L.length+1)(hb:nE x.L.length x.cs.length {n.c xs ys with main:=0,prev:=0,status:=0})(hi:i<=x.L.length)(go:eU g x (.alloc (n.c xs ys) i K))(ok:x.Ok)(hs:SF w D (xH k bx bm x dn rs) [(n.brA,aG xs),(n.prA,cZ ys)] [] (xW x) w) :
  Calls Tryz.prog 114 #[.pointer (some ⟨bx,0,none⟩),n.v,.int .i64 i] w λ e w'=>∃q:Int×XS×List aK,e=.returned (.int .i64 q.1)/\(Nx g x q.2.1 q.2.2 (K q.1) q.1/\ye x q.1 q.2.1)/\SF w D (xH k bx bm q.2.1 dn rs) [] (aY q.2.2) (xW q.2.1) w':=by
 have hlL:=ok.lL
 cases hst:x.st with
 | true=>exact(Vc i hst hs).mono λ e w' ⟨_,q1,_,q3⟩=>⟨(0,x,[]),q1,⟨Nx.st hst go ok,λ h=>by rw[hst] at h;cases h⟩,q3⟩
 | false =>
  have hgd:=go.run hst
  by_cases h1:x.m=x.made.length
  ·have hat:=hgd.Yc h1
   obtain⟨tn,c,t1,t2,t3,t4,t5,t6,t7,t8⟩:=hat.room hg
   cases c with
   | zero=>exact t1.elim
   | succ c =>
    refine(R5 i ok hst h1 t6 (by omega) (by omega) e1 e2 (by omega) (by omega) hs).mono λ e w' ⟨q,q1,_,q3⟩=>⟨(((x.L.length+1:Nat):Int),{x with L:=x.L++[jY n xs ys x.cs.length q.1],cs:=fZ n.kind x.cs i,pn:=q.1.pn,cn:=q.1.cn,pc:=q.1.pc,cc:=q.1.cc,made:=x.made++[((x.L.length+1:Nat):Int)],pm:=q.2.1,km:=q.2.2,m:=x.m+1},[jY n xs ys x.cs.length q.1]),q1,?_,?_⟩
    ·have hlen:(x.L++[jY n xs ys x.cs.length q.1]).length=x.L.length+1:=by simp
     have hcs:=Ak (k:=n.kind) (cs:=x.cs) (init:=i)
     have hgo:eU g {x with L:=x.L++[jY n xs ys x.cs.length q.1],cs:=fZ n.kind x.cs i,pn:=q.1.pn,cn:=q.1.cn,pc:=q.1.pc,cc:=q.1.cc,made:=x.made++[((x.L.length+1:Nat):Int)],pm:=q.2.1,km:=q.2.2,m:=x.m+1} (K ((x.L.length+1:Nat):Int)) :=
      hat.sG (ms:=[((x.L.length+1:Nat):Int)]) (cl:=[]) (gn:=[]) (N:=[jY n xs ys x.cs.length q.1]) (λ L=>Wk.Yn _) (by
       have:=Sp.alloc (n.c xs ys) i K x.mm
       have hl:x.mm.nodes.length=x.L.length:=by simp[XS.mm]
       rw[hl] at this
       have e:x.mm.push (n.c xs ys) i=XS.mm {x with L:=x.L++[jY n xs ys x.cs.length q.1],cs:=fZ n.kind x.cs i,pn:=q.1.pn,cn:=q.1.cn,pc:=q.1.pc,cc:=q.1.cc,made:=x.made++[((x.L.length+1:Nat):Int)],pm:=q.2.1,km:=q.2.2,m:=x.m+1}:=by
        unfold Mm.push XS.mm
        simp only[List.map_append]
        rfl
       rw[<- e]
       exact this) hst rfl rfl (by simp) (by simp) rfl rfl rfl rfl rfl rfl
     refine⟨⟨hgo,⟨λ v hv=>?_,λ v hv=>?_,λ v hv=>?_,λ v hv=>?_,λ v hv=>?_,?_,?_,?_,ok.lg,ok.la,?_,ok.lk,ok.le,ok.fr,λ v hv=>?_,ok.gen0,?_,?_⟩,rfl,hcs.1,?_⟩,λ _=>⟨hst,rfl,by show(x.made++[_]).getD x.m 0=_;rw[h1];exact Fw,by show x.m<(x.made++[_]).length;rw[List.length_append,List.length_singleton];omega,by rw[if_pos h1]⟩⟩
     ·rcases List.mem_append.1 hv with hv|hv
      ·exact ok.fit v hv
      ·rw[List.mem_singleton.1 hv];exact H0 (by omega) (by omega)
     ·show nE (x.L++[jY n xs ys x.cs.length q.1]).length (fZ n.kind x.cs i).length v.c
      rcases List.mem_append.1 hv with hv|hv
      ·exact(ok.nd v hv).mono (by omega) hcs.1
      ·rw[List.mem_singleton.1 hv]
       have hb':=hb.mono (n':=(x.L++[jY n xs ys x.cs.length q.1]).length) (c':=(fZ n.kind x.cs i).length) (by omega) hcs.1
       refine⟨hb'.bL,hb'.exp,hb'.new,hb'.br,?_,?_,?_,hb'.bm,hb'.hash⟩
       ·show(if n.kind=2 then((x.cs.length+1:Nat):Int) else 0)<=_
        split
        ·rename_i hk;unfold fZ;rw[if_pos (.inl hk)];simp
        ·omega
       ·show(if n.kind=3∨n.kind=5∨n.kind=6 then((x.cs.length+1:Nat):Int) else 0)<=_
        split
        ·rename_i hk;unfold fZ;rw[if_pos (by omega)];simp
        ·omega
       ·show(if n.kind=8 then((x.cs.length+1:Nat):Int) else 0)<=_
        split
        ·rename_i hk;unfold fZ;rw[if_pos (by omega)];simp
        ·omega
     ·show v<=((x.L++[jY n xs ys x.cs.length q.1]).length:Int)
      have hv':v∈fZ n.kind x.cs i:=hv
      unfold fZ at hv'
      split at hv'
      ·rcases List.mem_append.1 hv' with h|h
       ·have:=ok.cs v h;omega
       ·rw[List.mem_singleton.1 h];omega
      ·have:=ok.cs v hv';omega
     ·have:=ok.got v hv
      show v<=((x.L++[jY n xs ys x.cs.length q.1]).length:Int);omega
     ·show v<=((x.L++[jY n xs ys x.cs.length q.1]).length:Int)
      rcases List.mem_append.1 hv with hv|hv
      ·have:=ok.made v hv;omega
      ·rw[List.mem_singleton.1 hv];omega
     ·have:=ok.two
      show 2<=(x.L++[jY n xs ys x.cs.length q.1]).length;omega
     ·show(x.L++[jY n xs ys x.cs.length q.1]).length<=_;omega
     ·show(fZ n.kind x.cs i).length<=_;omega
     ·show x.m+1<=(x.made++[((x.L.length+1:Nat):Int)]).length
      rw[List.length_append,List.length_cons,List.length_nil];omega
     ·show v.ys.length<=(x.L++[jY n xs ys x.cs.length q.1]).length
      rcases List.mem_append.1 hv with hv|hv
      ·have:=ok.ys v hv;omega
      ·rw[List.mem_singleton.1 hv]
       show ys.length<=_
       omega
     ·show ∀i j:Nat,i<j->j<(x.made++[((x.L.length+1:Nat):Int)]).length->(x.made++[((x.L.length+1:Nat):Int)]).getD i 0<(x.made++[((x.L.length+1:Nat):Int)]).getD j 0
      exact eh ok.made ok.ms
     ·show ∀v∈x.made++[((x.L.length+1:Nat):Int)],1<=v
      intro v hv
      rcases List.mem_append.1 hv with hv|hv
      ·exact ok.m1 v hv
      ·rw[List.mem_singleton.1 hv];omega
     ·show((x.L.length+1:Nat):Int)<=((x.L++[jY n xs ys x.cs.length q.1]).length:Int);omega
    ·have e:aY [jY n xs ys x.cs.length q.1]=(jY n xs ys x.cs.length q.1).fr:=by simp[aY]
     rw[e]
     exact q3
  ·have h2:x.m<x.made.length:=by have:=ok.lm;omega
   have hml:x.made.length<=274877906944:=by
    obtain⟨R,hR⟩:=hgd
    obtain⟨c2,_,_,u3⟩:=hR.full.tN (Nat.le_refl 64) hg.tN (by have:=hR.hN;omega)
    have:=hg.hN
    have:=hR.hN
    omega
   refine(alloc_old i ok hst h2 hml hs).mono λ e w' ⟨_,q1,_,q3⟩=>⟨(x.made.getD x.m 0,{x with m:=x.m+1},[]),q1,?_,q3⟩
   exact⟨⟨.inl ⟨hst,hgd.alloc_old h2⟩,ok.j7 rfl rfl rfl rfl rfl rfl ok.la h2 ok.lk ok.le ok.fr,by simp,Nat.le_refl _,lO ok.made _⟩,λ _=>⟨hst,rfl,rfl,h2,by rw[if_neg h1]⟩⟩
theorem fJ(hg:g.Ok){n:Nd}{xs:List Int}{ys:List Pr}(i:Int)(K:Int->Tr)(e1:n.brN=xs.length)(e2:n.prN=ys.length)(hx:xs.length<=274877906944)(hy:ys.length<=x.L.length+1)(hb:nE x.L.length x.cs.length {n.c xs ys with main:=0,prev:=0,status:=0})(hi:i<=x.L.length)(go:eU g x (.alloc (n.c xs ys) i K))(ok:x.Ok)(hs:SF w D (xH k bx bm x dn rs) [(n.brA,aG xs),(n.prA,cZ ys)] [] (xW x) w) :
  Calls Tryz.prog 114 #[.pointer (some ⟨bx,0,none⟩),n.v,.int .i64 i] w λ e w'=>∃q:Int×XS×List aK,e=.returned (.int .i64 q.1)/\Nx g x q.2.1 q.2.2 (K q.1) q.1/\SF w D (xH k bx bm q.2.1 dn rs) [] (aY q.2.2) (xW q.2.1) w':=by
 exact(Pw hg i K e1 e2 hx hy hb hi go ok hs).mono λ e w' ⟨q,q1,q2,q3⟩=>⟨q,q1,q2.1,q3⟩
theorem M1(hg:g.Ok)(i:Int)(K:Int->Tr)(hi:i<=x.L.length)(go:eU g x (.cell i K))(ok:x.Ok)(hs:SF w D (xH k bx bm x dn rs) A [] (xW x) w):Calls Tryz.prog 126 #[.pointer (some ⟨bx,0,none⟩),.int .i64 i] w λ e w'=>∃q:Int×XS,e=.returned (.int .i64 q.1)/\Nx g x q.2 [] (K q.1) 0/\SF w D (xH k bx bm q.2 dn rs) [] [] (xW q.2) w':=by
 cases hst:x.st with
 | true=>exact(ie i hst hs).mono λ e w' ⟨_,q1,_,q3⟩=>⟨(0,x),q1,Nx.st hst go ok,q3⟩
 | false =>
  have hgd:=go.run hst
  by_cases h1:x.c=x.cel.length
  ·have hat:=hgd.gk h1
   obtain⟨tn,c,t1,t2,t3,t4,t5,t6,t7,t8⟩:=hat.room hg
   cases c with
   | zero=>exact t1.elim
   | succ c =>
    refine(Xg i hst h1 t7 (by omega) hs).mono λ e w' ⟨q,q1,_,q3⟩=>⟨(((x.cs.length+1:Nat):Int),{x with cs:=x.cs++[i],pc:=q.1.1,cc:=q.1.2,cel:=x.cel++[((x.cs.length+1:Nat):Int)],pl:=q.2.1,kl:=q.2.2,c:=x.c+1}),q1,?_,q3⟩
    have hgo:eU g {x with cs:=x.cs++[i],pc:=q.1.1,cc:=q.1.2,cel:=x.cel++[((x.cs.length+1:Nat):Int)],pl:=q.2.1,kl:=q.2.2,c:=x.c+1} (K ((x.cs.length+1:Nat):Int)) :=
     hat.sG (ms:=[]) (cl:=[((x.cs.length+1:Nat):Int)]) (gn:=[]) (N:=[]) (λ L=>Wk.F9 _) (Sp.cell i K x.mm) hst rfl (by simp) rfl (by simp) (by simp) rfl rfl rfl rfl rfl
    have hlc:(x.cs++[i]).length=x.cs.length+1:=by simp
    refine⟨hgo,⟨ok.fit,λ v hv=>(ok.nd v hv).mono (Nat.le_refl _) (by show _<=(x.cs++[i]).length;omega),λ v hv=>?_,ok.got,ok.made,ok.two,ok.lL,by show(x.cs++[i]).length<=_;omega,ok.lg,ok.la,ok.lm,?_,ok.le,ok.fr,ok.ys,ok.gen0,ok.ms,ok.m1⟩,by simp,by show _<=(x.cs++[i]).length;omega,bE _⟩
    ·rcases List.mem_append.1 hv with h|h
     ·exact ok.cs v h
     ·rw[List.mem_singleton.1 h];exact hi
    ·show x.c+1<=(x.cel++[((x.cs.length+1:Nat):Int)]).length
     rw[List.length_append,List.length_cons,List.length_nil];omega
  ·have h2:x.c<x.cel.length:=by have:=ok.lk;omega
   have hml:x.cel.length<=274877906944:=by
    obtain⟨R,hR⟩:=hgd
    obtain⟨c2,_,_,u3⟩:=hR.full.tN (Nat.le_refl 64) hg.tN (by have:=hR.hN;omega)
    have:=hg.hN
    have:=hR.hN
    omega
   refine(Bs i hst h2 hml hs).mono λ e w' ⟨_,q1,_,q3⟩=>⟨(x.cel.getD x.c 0,{x with c:=x.c+1}),q1,?_,q3⟩
   exact⟨.inl ⟨hst,hgd.Bs h2⟩,ok.j7 rfl rfl rfl rfl rfl rfl ok.la ok.lm h2 ok.le ok.fr,by simp,Nat.le_refl _,bE _⟩
theorem U7(hg:g.Ok)(K:Int->Tr)(go:eU g x (.gen K))(ok:x.Ok)(hs:SF w D (xH k bx bm x dn rs) A [] (xW x) w):Calls Tryz.prog 128 #[.pointer (some ⟨bx,0,none⟩)] w λ e w'=>∃q:Int×XS,e=.returned (.int .i64 q.1)/\Nx g x q.2 [] (K q.1) 0/\SF w D (xH k bx bm q.2 dn rs) [] [] (xW q.2) w':=by
 cases hst:x.st with
 | true=>exact(m9 hst hs).mono λ e w' ⟨_,q1,_,q3⟩=>⟨(0,x),q1,Nx.st hst go ok,q3⟩
 | false =>
  have hgd:=go.run hst
  by_cases h1:x.g=x.gns.length
  ·have hat:=hgd.pa h1
   obtain⟨tn,c,t1,t2,t3,t4,t5,t6,t7,t8⟩:=hat.room hg
   cases c with
   | zero=>exact t1.elim
   | succ c =>
    refine(Z8 hst h1 t8 ⟨by have:=ok.gen0;omega,by omega⟩ hs).mono λ e w' ⟨q,q1,_,q3⟩=>⟨(x.gen+1,{x with gen:=x.gen+1,gns:=x.gns++[x.gen+1],pe:=q.1,ke:=q.2,g:=x.g+1}),q1,?_,q3⟩
    have hgo:eU g {x with gen:=x.gen+1,gns:=x.gns++[x.gen+1],pe:=q.1,ke:=q.2,g:=x.g+1} (K (x.gen+1)) :=
     hat.sG (ms:=[]) (cl:=[]) (gn:=[x.gen+1]) (N:=[]) (λ L=>Wk.wa _) (Sp.gen K x.mm) hst rfl (by simp) (by simp) rfl (by simp) rfl rfl rfl rfl rfl
    refine⟨hgo,⟨ok.fit,ok.nd,ok.cs,ok.got,ok.made,ok.two,ok.lL,ok.lc,ok.lg,ok.la,ok.lm,ok.lk,?_,ok.fr,ok.ys,?_,ok.ms,ok.m1⟩,by simp,Nat.le_refl _,bE _⟩
    ·show x.g+1<=(x.gns++[x.gen+1]).length
     rw[List.length_append,List.length_cons,List.length_nil];omega
    ·show 0<=x.gen+1
     have:=ok.gen0;omega
  ·have h2:x.g<x.gns.length:=by have:=ok.le;omega
   have hml:x.gns.length<=274877906944:=by
    obtain⟨R,hR⟩:=hgd
    obtain⟨c2,_,_,u3⟩:=hR.full.tN (Nat.le_refl 64) hg.tN (by have:=hR.hN;omega)
    have:=hg.hN
    have:=hR.hN
    omega
   refine(Ik hst h2 hml hs).mono λ e w' ⟨_,q1,_,q3⟩=>⟨(x.gns.getD x.g 0,{x with g:=x.g+1}),q1,?_,q3⟩
   exact⟨.inl ⟨hst,hgd.Ik h2⟩,ok.j7 rfl rfl rfl rfl rfl rfl ok.la ok.lm ok.lk h2 ok.fr,by simp,Nat.le_refl _,bE _⟩
theorem cB(r:Int)(K:Nv->Tr)(hr:r<=x.L.length)(go:eU g x (.node r K))(ok:x.Ok)(hs:SF w D (xH k bx bm x dn rs) A [] (xW x) w):Calls Tryz.prog 110 #[.pointer (some ⟨bx,0,none⟩),.int .i64 r] w λ e w'=>∃q:Unit,e=.returned (aA x.L r).nd.v/\(eU g x (K (aA x.L r).c)/\nE x.L.length x.cs.length (aA x.L r).c)/\SF w D (xH k bx bm x dn rs) [] [] (xW x) w':=by
 have hl:=ok.lL
 refine(eK r (by omega) ok hs).mono λ e w' ⟨q,q1,_,q3⟩=>⟨q,q1,⟨?_,ok.nv r⟩,q3⟩
 have:=go.node hr
 rw[show cD x.nodes r=(aA x.L r).c from(Hu x.L r).symm] at this
 exact this
end
end

/- Executions of the reference: ROOT, SETTLE, READ. -/
end Go.Proofs.YtadnboagdhcedaaGreatDoor
namespace Go.Ct
section
open Go Go.RowKit
theorem Ch.se{g:Gx}{x0 x x':XS}{F:Fr}{t:Tr}{b:Int}(h:Nx g x x' [] t b)(hc:Ch x0 x F):Ch x0 x' F:=by
 have:=Ch.nx h hc
 exact this
theorem nE.i64{n c:Nat}{v:aK}(h:nE n c v.c)(hn:n<=137438953600)(hc:c<=137438953600):v.nd.bL<=9223372036854775807/\v.nd.new<=9223372036854775807/\v.nd.exp<=9223372036854775807/\v.nd.main<=9223372036854775807/\v.nd.prev<=9223372036854775807/\v.nd.status<=9223372036854775807:=by
 have h1:v.nd.bL<=n:=h.bL
 have h2:v.nd.new<=n:=h.new
 have h3:v.nd.exp<=n:=h.exp
 have h4:v.nd.main<=c:=h.main
 have h5:v.nd.prev<=c:=h.prev
 have h6:v.nd.status<=c:=h.status
 omega
end
end Go.Ct
namespace Go.Proofs.YtadnboagdhcedaaGreatDoor
section
open Go Go.RowKit Go.Ct
section
variable{k:Cl}{bx bm:Nat}{x:XS}{dn:Bool}{rs:Rs}{D:List Nat}{A:Fr}{w:World}{g:Gx}
abbrev Jc(t:eQ):Value:=.agg ⟨[.int .i64 t.root,.bool t.ro]⟩
theorem Ec(v s:Int)(K:Int->Tr)(hv:v<=x.L.length)(go:eU g x (n0 v s K))(ok:x.Ok)(hs:SF w D (xH k bx bm x dn rs) A [] (xW x) w):Calls Tryz.prog 113 #[.pointer (some ⟨bx,0,none⟩),.int .i64 v,.int .i64 s] w λ e w'=>∃q:Int,e=.returned (.int .i64 q)/\(eU g x (K q)/\q<=x.L.length)/\SF w D (xH k bx bm x dn rs) [] [] (xW x) w':=by
 refine enter Tryz.func113 Tryz.ntmps113 rfl rfl (cA hs) ?_
 simp only[cR]
 refine Ka7 ?_;refine rR ?_
 refine aZ (λ c8=>?_) (λ c8=>?_)
 ·refine iF ?_;refine aC (cM (hs:=xH k bx bm x dn rs) (os:=xW x) (hc:=λ w hs=>cB v _ hv go ok hs)) (λ x11 h11=>?_);refine cE ?_;refine J1 ?_
  refine aN Tryz.results113 (λ w hw=>?_)
  exact⟨_,rfl,⟨h11.1.to (λ _=>by rw[if_pos (by assumption)];rfl),h11.2.new⟩,hw.aU⟩
 ·refine yT ?_;refine aC (cM (hs:=xH k bx bm x dn rs) (os:=xW x) (hc:=λ w hs=>cB v _ hv go ok hs)) (λ x15 h15=>?_);refine cE ?_;refine J1 ?_
  refine aN Tryz.results113 (λ w hw=>?_)
  exact⟨_,rfl,⟨h15.1.to (λ _=>by rw[if_neg (by assumption)];rfl),h15.2.bL⟩,hw.aU⟩
theorem pq(hg:g.Ok)(t:eQ)(K:Int->Tr)(ht:t.root<=9223372036854775807)(go:eU g x (Pg t K))(ok:x.Ok)(hs:SF w D (xH k bx bm x dn rs) A [] (xW x) w):Calls Tryz.prog 141 #[.pointer (some ⟨bx,0,none⟩),Jc t] w λ e w'=>∃q:Int×XS,e=.returned (.int .i64 q.1)/\Nx g x q.2 [] (K q.1) q.1/\SF w D (xH k bx bm q.2 dn rs) [] [] (xW q.2) w':=by
 refine enter Tryz.func141 Tryz.ntmps141 rfl rfl (cA hs) ?_
 simp only[cR]
 simp only[Jc]
 refine J0 ?_;refine bP (λ x3=>?_);refine Ka4 ?_;refine J3 ?_;refine aC (cM (hs:=xH k bx bm x dn rs) (os:=xW x) (hc:=λ w hs=>nM hg t.root _ ht go ok hs)) (λ x11 h11=>?_);refine gK ?_;refine mV ?_;refine aB ?_
 (refine eR 16 (λ g16=>?_) (λ g16=>?_)<;>refine Ka1 ?_)
 all_goals (refine Ka1 ?_;(first|refine aH ?_|(refine aF ?_;refine aC (cM (hs:=xH k bx bm x11.2 dn rs) (os:=xW x11.2) (hc:=λ w hs=>cB x11.1 _ h11.bd h11.go h11.ok hs)) (λ x19 h19=>?_)));refine sv ?_;refine aI ?_)
 all_goals
 refine aZ (λ c22=>?_) (λ c22=>?_)
 ·all_goals (refine Ka6 ?_)
  all_goals
   refine aN Tryz.results141 (λ w hw=>?_)
   exact⟨x11,rfl,h11.cC (by first|exact h11.go.bO (by assumption)|exact h19.1.to (λ _=>if_pos (by assumption))) h11.bd,hw.aU⟩
 ·try exact nv c22
  all_goals
   have g1:=h19.1.to (λ _=>if_neg c22)
   have hb1:=h19.2.i64 h11.ok.lL h11.ok.lc
  all_goals (refine yT ?_;refine aB ?_;refine aC (cM (hs:=xH k bx bm x11.2 dn rs) (os:=xW x11.2) (hc:=λ w hs=>cB x11.1 _ h11.bd g1 h11.ok hs)) (λ x27 h27=>?_);refine cE ?_;refine aC (cM (hs:=xH k bx bm x11.2 dn rs) (os:=xW x11.2) (hc:=λ w hs=>nM hg (aA x11.2.L x11.1).nd.status _ hb1.2.2.2.2.2 h27.1 h11.ok hs)) (λ x29 h29=>?_);refine gK ?_)
  all_goals
   refine eL [6,30,31,32,33,34,35,36,37,38,39,40,41,42,43] (λ q:Int×XS=>[(6,.int .i64 q.1)]) (λ q=>Nx g x q.2 [] (E1 t x11.1 q.1 K) 0/\x11.1<=q.2.L.length) (λ q=>[(x3,.cells ⟨[.int .i64 t.root,.bool t.ro]⟩ 29 (0,0)),(bx,xO k bm q.2 dn rs),(bm,xM q.2)]) (λ _=>[]) (λ q=>xW q.2) (by decide) (λ _=>by exact rfl) ?_ (λ q f hx=>?_)
   ·refine aS ?_
    refine yB ?_;refine rR ?_
    refine aZ (λ c31=>?_) (λ c31=>?_)
    ·have g2:=h29.go.to (λ _=>if_pos c31)
     have hv2:x11.1<=x29.2.L.length:=by have:=h29.len;have:=h11.bd;omega
     refine iF ?_;refine aB ?_;refine aC (cM (hs:=xH k bx bm x29.2 dn rs) (os:=xW x29.2) (hc:=λ w hs=>cB x11.1 _ hv2 g2 h29.ok hs)) (λ x35 h35=>?_);refine cE ?_;refine aC (cM (hs:=xH k bx bm x29.2 dn rs) (os:=xW x29.2) (hc:=λ w hs=>sV hg (aA x29.2.L x11.1).nd.status 0 2 _ (h35.2.i64 h29.ok.lL h29.ok.lc).2.2.2.2.2 (by have:=h29.ok.two;omega) h35.1 h29.ok hs)) (λ x37 h37=>?_);refine aI ?_;refine yB ?_;refine nB ?_;refine aC (cM (hs:=xH k bx bm x37.2 dn rs) (os:=xW x37.2) (hc:=λ w hs=>cB x11.1 _ (by have:=h37.len;omega) h37.go h37.ok hs)) (λ x41 h41=>?_);refine cE ?_;refine aC (cM (hs:=xH k bx bm x37.2 dn rs) (os:=xW x37.2) (hc:=λ w hs=>nM hg (aA x37.2.L x11.1).nd.status _ (h41.2.i64 h37.ok.lL h37.ok.lc).2.2.2.2.2 h41.1 h37.ok hs)) (λ x43 h43=>?_);refine J1 ?_
     refine gA (x43) ?_
     ·exact⟨(h11.trans (h29.trans (h37.trans h43))).cC h43.go (bE _),by have:=h37.len;have:=h43.len;omega⟩
    ·have g2:=h29.go.to (λ _=>if_neg c31)
     have hv2:x11.1<=x29.2.L.length:=by have:=h29.len;have:=h11.bd;omega
     refine bA ?_
     refine gA (x29) ?_
     ·exact⟨(h11.trans h29).cC g2 (bE _),hv2⟩
   dsimp only[gG,List.map,List.cons_append,List.nil_append]
  all_goals (refine iF ?_;refine aB ?_;refine aC (cM (hs:=xH k bx bm q.2 dn rs) (os:=xW q.2) (hc:=λ w hs=>Ec x11.1 q.1 _ hx.2 hx.1.go hx.1.ok hs)) (λ x47 h47=>?_);refine Ka4 ?_;refine J3 ?_;refine nB ?_;refine aC (cM (hs:=xH k bx bm q.2 dn rs) (os:=xW q.2) (hc:=λ w hs=>sV hg t.root x11.1 x47 _ ht h47.2 h47.1 hx.1.ok hs)) (λ x53 h53=>?_);refine aI ?_;refine Ka6 ?_)
  all_goals
   refine aN Tryz.results141 (λ w hw=>?_)
   exact⟨(x47,x53.2),rfl,(hx.1.trans h53).cC h53.go (by have:=h53.len;have:=h47.2;omega),hw.aU⟩
end
end

/- Executions of the reference: SETTLE, READ, GCAS. -/
end Go.Proofs.YtadnboagdhcedaaGreatDoor
namespace Go.Ct
section
theorem Yg{n c:Nat}{p:Int}(h:p<=n):nE n c {(({Nd.zero with kind:=7,bL:=p}:Nd).c [] []) with main:=0,prev:=0,status:=0}:=⟨h,bE _,bE _,(λ r hr=>nomatch hr),bE _,bE _,bE _,⟨0,rfl,by decide⟩,⟨0,rfl,by decide⟩⟩
end
end Go.Ct
namespace Go.Proofs.YtadnboagdhcedaaGreatDoor
section
open Go Go.RowKit Go.Ct
section
variable{k:Cl}{bx bm:Nat}{x:XS}{dn:Bool}{rs:Rs}{D:List Nat}{A:Fr}{w:World}{g:Gx}
theorem Ll(hg:g.Ok)(t:eQ)(i m:Int)(K:Int->Tr)(ht:t.root<=9223372036854775807)(hi:i<=x.L.length)(hm:m<=x.L.length)(go:eU g x (uN t i m K))(ok:x.Ok)(hs:SF w D (xH k bx bm x dn rs) A [] (xW x) w):Calls Tryz.prog 108 #[.pointer (some ⟨bx,0,none⟩),Jc t,.int .i64 i,.int .i64 m] w λ e w'=>∃q:Int×XS×List aK,e=.returned (.int .i64 q.1)/\Nx g x q.2.1 q.2.2 (K q.1) q.1/\SF w D (xH k bx bm q.2.1 dn rs) [] (aY q.2.2) (xW q.2.1) w':=by
 refine enter Tryz.func108 Tryz.ntmps108 rfl rfl (cA hs) ?_
 simp only[cR]
 simp only[Jc]
 refine J0 ?_;refine bP (λ x5=>?_);refine tZ ?_;refine aB ?_;refine aC (cM (hs:=xH k bx bm x dn rs) (os:=xW x) (hc:=λ w hs=>cB m _ hm go ok hs)) (λ x14 h14=>?_);refine cE ?_;refine aC (cM (hs:=xH k bx bm x dn rs) (os:=xW x) (hc:=λ w hs=>nM hg (aA x.L m).nd.prev _ (h14.2.i64 ok.lL ok.lc).2.2.2.2.1 h14.1 ok hs)) (λ x16 h16=>?_);refine gK ?_;refine mV ?_;refine aB ?_
 (refine eR 21 (λ g21=>?_) (λ g21=>?_)<;>refine Ka1 ?_)
 all_goals (refine wQ ?_;refine aI ?_)
 all_goals
 refine aZ (λ c24=>?_) (λ c24=>?_)
 ·all_goals (refine Ka6 ?_)
  all_goals
   refine aN Tryz.results108 (λ w hw=>?_)
   exact⟨(m,x16.2,[]),rfl,h16.cC (by first|exact h16.go.bO (by assumption)|exact h16.go.to (λ _=>if_pos (by assumption))) (by have:=h16.len;omega),hw.z7⟩
 ·try exact nv c24
  all_goals
   have g1:=h16.go.to (λ _=>if_neg c24)
   have hl16:=h16.len
  all_goals refine jD ?_
  all_goals
   refine eL [8,9,10,26,27,28,29,30,31,32,33,34,35,36,37,38,39,40,41,42,43,44,45,46,47,48,49,50,51,52,53,54,55,56,57,58,59,60,61,62,63,64,65,66,67,68,69,70,71,72,73,74,75,76,77] (λ q:Int×XS×List aK=>[(9,.int .i64 q.1)]) (λ q=>Nx g x q.2.1 q.2.2 (Yo i m q.1 K) 0/\q.1<=q.2.1.L.length) (λ q=>[(x5,.cells ⟨[.int .i64 t.root,.bool t.ro]⟩ 29 (0,0)),(bx,xO k bm q.2.1 dn rs),(bm,xM q.2.1)]) (λ q=>aY q.2.2) (λ q=>xW q.2.1) (by decide) (λ _=>by exact rfl) ?_ (λ q f hx=>?_)
   ·refine aS ?_
    refine Mc ?_;refine aC (cM (hs:=xH k bx bm x16.2 dn rs) (os:=xW x16.2) (hc:=λ w hs=>cB x16.1 _ h16.bd g1 h16.ok hs)) (λ x28 h28=>?_);refine aC (c0 (V:=.bool) (hc:=λ w1 hw=>Sg (aA x16.2.L x16.1).nd w1)) (λ x29 h29=>?_);refine aI ?_
    refine aZ (λ c29=>?_) (λ c29=>?_)
    ·have g2:=h28.1.to (λ _=>if_pos (show bU (aA x16.2.L x16.1).c from h29.1 c29))
     refine Jb ?_
     refine eL [10,30,31,32,33,34,35,36,37,38,39,40,41,42,43] (λ y:Bool×XS=>[(10,.bool y.1)]) (λ y=>Nx g x y.2 [] (Bo i m x16.1 y.1 K) 0/\x16.1<=y.2.L.length) (λ y=>[(x5,.cells ⟨[.int .i64 t.root,.bool t.ro]⟩ 29 (0,0)),(bx,xO k bm y.2 dn rs),(bm,xM y.2)]) (λ _=>[]) (λ y=>xW y.2) (by decide) (λ _=>by exact rfl) ?_ (λ y f hx=>?_)
     ·refine aS ?_
      refine dO ?_;refine J3 ?_;refine lX ?_
      refine aZ (λ c32=>?_) (λ c32=>?_)
      ·have g3:=g2.to (λ _=>if_neg (by simpa using c32))
       refine Mc ?_;refine bK ?_;refine aC (cM (hs:=xH k bx bm x16.2 dn rs) (os:=xW x16.2) (hc:=λ w hs=>pq hg t _ ht g3 h16.ok hs)) (λ x36 h36=>?_);refine aC (cM (hs:=xH k bx bm x36.2 dn rs) (os:=xW x36.2) (hc:=λ w hs=>cB x36.1 _ h36.bd h36.go h36.ok hs)) (λ x37 h37=>?_);refine cE ?_;refine nB ?_;refine aC (cM (hs:=xH k bx bm x36.2 dn rs) (os:=xW x36.2) (hc:=λ w hs=>cB i _ (by have:=h36.len;omega) h37.1 h36.ok hs)) (λ x41 h41=>?_);refine cE ?_;refine M2 ?_
       refine gA (((aA x36.2.L x36.1).nd.gen==(aA x36.2.L i).nd.gen,x36.2)) ?_
       ·exact⟨(h16.trans h36).cC h41.1 (bE _),(show x16.1<=(x36.2.L.length:Int) by have:=h36.len;have:=h16.bd;omega)⟩
      ·have g3:=g2.to (λ _=>if_pos (by simpa using c32))
       refine bA ?_
       refine gA ((false,x16.2)) ?_
       ·exact⟨h16.cC g3 (bE _),h16.bd⟩
     dsimp only[gG,List.map,List.cons_append,List.nil_append]
     have hly:=hx.1.len
     refine aS ?_
     refine eL [44,45,46,47,48,49,50,51,52,53,54,55,56,57,58,59,60,61,62] (λ z:XS×List aK=>[]) (λ z=>Nx g x z.1 z.2 (tQ i m K) 0) (λ z=>[(x5,.cells ⟨[.int .i64 t.root,.bool t.ro]⟩ 29 (0,0)),(bx,xO k bm z.1 dn rs),(bm,xM z.1)]) (λ z=>aY z.2) (λ z=>xW z.1) (by decide) (λ _=>by exact rfl) ?_ (λ z f hx=>?_)
     ·refine aS ?_
      refine yB ?_;refine aI ?_
      refine aZ (λ c44=>?_) (λ c44=>?_)
      ·have g4:=hx.1.go.to (λ _=>if_pos c44)
       refine yB ?_;refine nB ?_;refine aC (cM (hs:=xH k bx bm y.2 dn rs) (os:=xW y.2) (hc:=λ w hs=>cB m _ (by omega) g4 hx.1.ok hs)) (λ x48 h48=>?_);refine cE ?_;refine aB ?_;refine aC (cM (hs:=xH k bx bm y.2 dn rs) (os:=xW y.2) (hc:=λ w hs=>sV hg (aA y.2.L m).nd.prev x16.1 0 _ (h48.2.i64 hx.1.ok.lL hx.1.ok.lc).2.2.2.2.1 (bE _) h48.1 hx.1.ok hs)) (λ x51 h51=>?_);refine aI ?_
       refine gA ((x51.2,[])) ?_ (hw1:=λ w hw=>hw.v1)
       ·exact(hx.1.trans h51).cC h51.go (bE _)
      ·have g4:=hx.1.go.to (λ _=>if_neg (by rw[c44];decide))
       refine yB ?_;refine nB ?_;refine aC (cM (hs:=xH k bx bm y.2 dn rs) (os:=xW y.2) (hc:=λ w hs=>cB m _ (by omega) g4 hx.1.ok hs)) (λ x55 h55=>?_);refine cE ?_;refine nB ?_;refine aB ?_;refine bD ?_;refine aC (cM (hs:=xH k bx bm y.2 dn rs) (os:=xW y.2) (A0:=[(none,aG []),(none,cZ [])]) (hc:=λ w hs=>fJ hg (n:={Nd.zero with kind:=7,bL:=x16.1}) (xs:=[]) (ys:=[]) 0 _ rfl rfl (by decide) (Nat.zero_le _) (Yg hx.2) (bE _) h55.1 hx.1.ok hs)) (λ x61 h61=>?_);refine aC (cM (hs:=xH k bx bm x61.2.1 dn rs) (os:=xW x61.2.1) (hc:=λ w hs=>sV hg (aA y.2.L m).nd.prev x16.1 x61.1 _ (h55.2.i64 hx.1.ok.lL hx.1.ok.lc).2.2.2.2.1 h61.bd h61.go h61.ok hs)) (λ x62 h62=>?_);refine aI ?_
       refine gA ((x62.2,x61.2.2)) ?_ (hw1:=λ w hw=>by rw[List.append_nil] at hw;exact hw.v1)
       ·exact(hx.1.trans (h61.trans h62)).ext' h62.go (bE _)
     dsimp only[gG,List.map,List.cons_append,List.nil_append]
     have hlz:=hx.len
     refine iF ?_;refine aB ?_;refine aC (cM (hs:=xH k bx bm z.1 dn rs) (os:=xW z.1) (hc:=λ w hs=>cB m _ (by omega) hx.go hx.ok hs)) (λ x66 h66=>?_);refine cE ?_;refine aC (cM (hs:=xH k bx bm z.1 dn rs) (os:=xW z.1) (hc:=λ w hs=>nM hg (aA z.1.L m).nd.prev _ (h66.2.i64 hx.ok.lL hx.ok.lc).2.2.2.2.1 h66.1 hx.ok hs)) (λ x68 h68=>?_);refine J1 ?_;refine mV ?_;refine aB ?_
     (refine eR 73 (λ g73=>?_) (λ g73=>?_)<;>refine Ka1 ?_)
     all_goals (refine wQ ?_;refine aI ?_)
     all_goals
     refine aZ (λ c76=>?_) (λ c76=>?_)
     ·all_goals (refine Ka6 ?_)
      all_goals
       refine aN Tryz.results108 (λ w hw=>?_)
       exact⟨(m,x68.2,z.2),rfl,(hx.trans h68).ext' (by first|exact h68.go.bO (by assumption)|exact h68.go.to (λ _=>if_pos (by assumption))) (by have:=h68.len;omega),hw.z7⟩
     ·try exact nv c76
      all_goals
       have g5:=h68.go.to (λ _=>if_neg c76)
      all_goals refine bA ?_
      all_goals
       refine gA ((x68.1,x68.2,z.2)) ?_ (hw1:=λ w hw=>hw.v1)
       ·exact⟨(hx.trans h68).ext' g5 (bE _),h68.bd⟩
    ·have g2:=h28.1.to (λ _=>if_neg (show ¬bU (aA x16.2.L x16.1).c from λ h=>absurd (h29.2 h) (by rw[c29];decide)))
     refine bA ?_
     refine gA ((x16.1,x16.2,[])) ?_ (hw1:=λ w hw=>hw.v1)
     ·exact⟨h16.cC g2 (bE _),h16.bd⟩
   dsimp only[gG,List.map,List.cons_append,List.nil_append]
   have hlq:=hx.1.len
  all_goals (refine iF ?_;refine aB ?_;refine aC (cM (hs:=xH k bx bm q.2.1 dn rs) (os:=xW q.2.1) (hc:=λ w hs=>cB i _ (by omega) hx.1.go hx.1.ok hs)) (λ x81 h81=>?_);refine cE ?_;refine nB ?_;refine aB ?_;refine aC (cM (hs:=xH k bx bm q.2.1 dn rs) (os:=xW q.2.1) (hc:=λ w hs=>cB q.1 _ hx.2 h81.1 hx.1.ok hs)) (λ x86 h86=>?_);refine cE ?_;refine aC (cM (hs:=xH k bx bm q.2.1 dn rs) (os:=xW q.2.1) (hc:=λ w hs=>sV hg (aA q.2.1.L i).nd.main m (aA q.2.1.L q.1).nd.bL _ (h81.2.i64 hx.1.ok.lL hx.1.ok.lc).2.2.2.1 h86.2.bL h86.1 hx.1.ok hs)) (λ x88 h88=>?_);refine aI ?_;refine iF ?_;refine aC (cM (hs:=xH k bx bm x88.2 dn rs) (os:=xW x88.2) (hc:=λ w hs=>cB q.1 _ (by have:=h88.len;omega) h88.go h88.ok hs)) (λ x91 h91=>?_);refine cE ?_;refine J1 ?_)
  all_goals
   refine aN Tryz.results108 (λ w hw=>?_)
   exact⟨((aA x88.2.L q.1).nd.bL,x88.2,q.2.2),rfl,(hx.1.trans h88).ext' h91.1 h91.2.bL,hw.z7⟩
end
end

end Go.Proofs.YtadnboagdhcedaaGreatDoor
