/- Merged. -/
import Derived.Test.YtbajmaoegmbfgaaGreatGEx0
set_option linter.unusedSimpArgs false
set_option linter.unusedVariables false
namespace Go.Proofs.YtbajmaoegmbfgaaGreat
open Go.Proofs.Tryz (prog)
open Go Go.RowKit Go.Ct
section
section
variable{k:Cl}{bx bm:Nat}{x:XS}{dn:Bool}{rs:Rs}{D:List Nat}{A:Fr}{w:World}{g:Gx}
def AlS(x:XS)(r:Int)(x':XS):Prop:=x.st=false->x'.st=false/\x'.m=x.m+1/\x'.made.getD x.m 0=r/\x.m<x'.made.length/\r=if x.m=x.made.length then((x.L.length+1:Nat):Int) else x.made.getD x.m 0
variable{l xs:List Int}{n:Nd}{ys:List Pr}
theorem Me{v:Int}:(l++[v]).getD l.length 0=v:=by simp[iX]
theorem v7{n:Nat}(h:∀v∈l,v<=n)(hs:∀i j:Nat,i<j->j<l.length->l.getD i 0<l.getD j 0):∀i j:Nat,i<j->j<(l++[((n+1:Nat):Int)]).length->(l++[((n+1:Nat):Int)]).getD i 0<(l++[((n+1:Nat):Int)]).getD j 0:=by
 intro i j hij hj;have e:∀k,k<l.length->(l++[((n+1:Nat):Int)]).getD k 0=l.getD k 0:=λ k hk=>by rw[iX,iX,List.getElem?_append_left hk]
 rw[List.length_append,List.length_singleton] at hj;by_cases h2:j<l.length;·rw[e i (by omega),e j h2];exact hs i j hij h2
 ·have:j=l.length:=by omega
  subst this;rw[e i hij,Me];have:=mU h i;omega
theorem Xm(hg:g.Ok)(i:Int)(K:Int->Tr)(e1:n.brN=xs.length)(e2:n.prN=ys.length)(hx:xs.length<=274877906944)(hy:ys.length<=x.L.length+1)(hb:mX x.L.length x.cs.length {n.c xs ys with main:=0,prev:=0,status:=0})(hi:i<=x.L.length)(go:gI g x (.alloc (n.c xs ys) i K))(ok:x.Ok)(hs:SF w D (xH k bx bm x dn rs) [(n.brA,aH xs),(n.prA,dF ys)] [] (xW x) w) :
  Calls prog 215 #[.pointer (some ⟨bx,0,none⟩),n.v,.int .i64 i] w λ e w'=>∃q:Int×XS×List aQ,e=.returned (.int .i64 q.1)/\(Nx g x q.2.1 q.2.2 (K q.1) q.1/\AlS x q.1 q.2.1)/\SF w D (xH k bx bm q.2.1 dn rs) [] (aN q.2.2) (xW q.2.1) w':=by
 have hlL:=ok.lL;cases hst:x.st with
 | true=>exact(q8 i hst hs).mono λ e w' ⟨_,q1,_,q3⟩=>⟨(0,x,[]),q1,⟨Nx.st hst go ok,λ h=>by rw[hst] at h;cases h⟩,q3⟩
 | false=>
  have hgd:=go.run hst;by_cases h1:x.m=x.made.length
  ·have hat:=hgd.ra h1;obtain⟨tn,c,t1,t2,t3,t4,t5,t6,t7,t8⟩:=hat.room hg;cases c with
   | zero=>exact t1.elim
   | succ c=>
    refine(Zi i ok hst h1 t6 (by omega) (by omega) e1 e2 (by omega) (by omega) hs).mono λ e w' ⟨q,q1,_,q3⟩=>⟨(((x.L.length+1:Nat):Int),{x with L:=x.L++[pP n xs ys x.cs.length q.1],cs:=fL n.kind x.cs i,pn:=q.1.pn,cn:=q.1.cn,pc:=q.1.pc,cc:=q.1.cc,made:=x.made++[((x.L.length+1:Nat):Int)],pm:=q.2.1,km:=q.2.2,m:=x.m+1},[pP n xs ys x.cs.length q.1]),q1,?_,?_⟩
    ·have hlen:(x.L++[pP n xs ys x.cs.length q.1]).length=x.L.length+1:=by simp
     have hcs:=mH (k:=n.kind) (cs:=x.cs) (init:=i)
     have hgo:gI g {x with L:=x.L++[pP n xs ys x.cs.length q.1],cs:=fL n.kind x.cs i,pn:=q.1.pn,cn:=q.1.cn,pc:=q.1.pc,cc:=q.1.cc,made:=x.made++[((x.L.length+1:Nat):Int)],pm:=q.2.1,km:=q.2.2,m:=x.m+1} (K ((x.L.length+1:Nat):Int)) :=
      hat.eF (ms:=[((x.L.length+1:Nat):Int)]) (cl:=[]) (gn:=[]) (N:=[pP n xs ys x.cs.length q.1]) (λ L=>Wk.se _) (by
       have:=Sp.alloc (n.c xs ys) i K x.mm;have hl:x.mm.nodes.length=x.L.length:=by simp[XS.mm]
       rw[hl] at this
       have e:x.mm.push (n.c xs ys) i=XS.mm {x with L:=x.L++[pP n xs ys x.cs.length q.1],cs:=fL n.kind x.cs i,pn:=q.1.pn,cn:=q.1.cn,pc:=q.1.pc,cc:=q.1.cc,made:=x.made++[((x.L.length+1:Nat):Int)],pm:=q.2.1,km:=q.2.2,m:=x.m+1}:=by
        unfold Mm.push XS.mm
        simp only[List.map_append]
        rfl
       rw[<- e]
       exact this) hst rfl rfl (by simp) (by simp) rfl rfl rfl rfl rfl rfl
     refine⟨⟨hgo,⟨λ v hv=>?_,λ v hv=>?_,λ v hv=>?_,λ v hv=>?_,λ v hv=>?_,?_,?_,?_,ok.lg,ok.la,?_,ok.lk,ok.le,ok.fr,λ v hv=>?_,ok.gen0,?_,?_⟩,rfl,hcs.1,?_⟩,λ _=>⟨hst,rfl,by show(x.made++[_]).getD x.m 0=_;rw[h1];exact Me,by show x.m<(x.made++[_]).length;rw[List.length_append,List.length_singleton];omega,by rw[if_pos h1]⟩⟩
     ·rcases List.mem_append.1 hv with hv|hv;·exact ok.fit v hv
      ·rw[List.mem_singleton.1 hv];exact N6 (by omega) (by omega)
     ·show mX (x.L++[pP n xs ys x.cs.length q.1]).length (fL n.kind x.cs i).length v.c;rcases List.mem_append.1 hv with hv|hv;·exact(ok.nd v hv).mono (by omega) hcs.1
      ·rw[List.mem_singleton.1 hv];have hb':=hb.mono (n':=(x.L++[pP n xs ys x.cs.length q.1]).length) (c':=(fL n.kind x.cs i).length) (by omega) hcs.1;refine⟨hb'.bS,hb'.exp,hb'.new,hb'.br,?_,?_,?_,hb'.bm,hb'.hash⟩
       ·show(if n.kind=2 then((x.cs.length+1:Nat):Int) else 0)<=_;split;·rename_i hk;unfold fL;rw[if_pos (.inl hk)];simp
        ·omega
       ·show(if n.kind=3∨n.kind=5∨n.kind=6 then((x.cs.length+1:Nat):Int) else 0)<=_;split;·rename_i hk;unfold fL;rw[if_pos (by omega)];simp
        ·omega
       ·show(if n.kind=8 then((x.cs.length+1:Nat):Int) else 0)<=_;split;·rename_i hk;unfold fL;rw[if_pos (by omega)];simp
        ·omega
     ·show v<=((x.L++[pP n xs ys x.cs.length q.1]).length:Int);have hv':v∈fL n.kind x.cs i:=hv;unfold fL at hv';split at hv'
      ·rcases List.mem_append.1 hv' with h|h;·have:=ok.cs v h;omega
       ·rw[List.mem_singleton.1 h];omega
      ·have:=ok.cs v hv';omega
     ·have:=ok.got v hv;show v<=((x.L++[pP n xs ys x.cs.length q.1]).length:Int);omega
     ·show v<=((x.L++[pP n xs ys x.cs.length q.1]).length:Int);rcases List.mem_append.1 hv with hv|hv;·have:=ok.made v hv;omega
      ·rw[List.mem_singleton.1 hv];omega
     ·have:=ok.two;show 2<=(x.L++[pP n xs ys x.cs.length q.1]).length;omega
     ·show(x.L++[pP n xs ys x.cs.length q.1]).length<=_;omega
     ·show(fL n.kind x.cs i).length<=_;omega
     ·show x.m+1<=(x.made++[((x.L.length+1:Nat):Int)]).length;rw[List.length_append,List.length_cons,List.length_nil];omega
     ·show v.ys.length<=(x.L++[pP n xs ys x.cs.length q.1]).length;rcases List.mem_append.1 hv with hv|hv;·have:=ok.ys v hv;omega
      ·rw[List.mem_singleton.1 hv];show ys.length<=_;omega
     ·show ∀i j:Nat,i<j->j<(x.made++[((x.L.length+1:Nat):Int)]).length->(x.made++[((x.L.length+1:Nat):Int)]).getD i 0<(x.made++[((x.L.length+1:Nat):Int)]).getD j 0;exact v7 ok.made ok.ms
     ·show ∀v∈x.made++[((x.L.length+1:Nat):Int)],1<=v;intro v hv;rcases List.mem_append.1 hv with hv|hv;·exact ok.m1 v hv
      ·rw[List.mem_singleton.1 hv];omega
     ·show((x.L.length+1:Nat):Int)<=((x.L++[pP n xs ys x.cs.length q.1]).length:Int);omega
    ·have e:aN [pP n xs ys x.cs.length q.1]=(pP n xs ys x.cs.length q.1).fr:=by simp[aN]
     rw[e];exact q3
  ·have h2:x.m<x.made.length:=by have:=ok.lm;omega
   have hml:x.made.length<=274877906944:=by obtain⟨R,hR⟩:=hgd;obtain⟨c2,_,_,u3⟩:=hR.full.wR (Nat.le_refl 64) hg.wR (by have:=hR.hN;omega);have:=hg.hN;have:=hR.hN;omega
   refine(alloc_old i ok hst h2 hml hs).mono λ e w' ⟨_,q1,_,q3⟩=>⟨(x.made.getD x.m 0,{x with m:=x.m+1},[]),q1,?_,q3⟩;exact⟨⟨.inl ⟨hst,hgd.alloc_old h2⟩,ok.upa rfl rfl rfl rfl rfl rfl ok.la h2 ok.lk ok.le ok.fr,by simp,Nat.le_refl _,mU ok.made _⟩,λ _=>⟨hst,rfl,rfl,h2,by rw[if_neg h1]⟩⟩
theorem iD(hg:g.Ok)(i:Int)(K:Int->Tr)(e1:n.brN=xs.length)(e2:n.prN=ys.length)(hx:xs.length<=274877906944)(hy:ys.length<=x.L.length+1)(hb:mX x.L.length x.cs.length {n.c xs ys with main:=0,prev:=0,status:=0})(hi:i<=x.L.length)(go:gI g x (.alloc (n.c xs ys) i K))(ok:x.Ok)(hs:SF w D (xH k bx bm x dn rs) [(n.brA,aH xs),(n.prA,dF ys)] [] (xW x) w) :
  Calls prog 215 #[.pointer (some ⟨bx,0,none⟩),n.v,.int .i64 i] w λ e w'=>∃q:Int×XS×List aQ,e=.returned (.int .i64 q.1)/\Nx g x q.2.1 q.2.2 (K q.1) q.1/\SF w D (xH k bx bm q.2.1 dn rs) [] (aN q.2.2) (xW q.2.1) w':=by exact(Xm hg i K e1 e2 hx hy hb hi go ok hs).mono λ e w' ⟨q,q1,q2,q3⟩=>⟨q,q1,q2.1,q3⟩
theorem Uh(hg:g.Ok)(i:Int)(K:Int->Tr)(hi:i<=x.L.length)(go:gI g x (.cell i K))(ok:x.Ok)(hs:SF w D (xH k bx bm x dn rs) A [] (xW x) w):Calls prog 228 #[.pointer (some ⟨bx,0,none⟩),.int .i64 i] w λ e w'=>∃q:Int×XS,e=.returned (.int .i64 q.1)/\Nx g x q.2 [] (K q.1) 0/\SF w D (xH k bx bm q.2 dn rs) [] [] (xW q.2) w':=by
 cases hst:x.st with
 | true=>exact(v9 i hst hs).mono λ e w' ⟨_,q1,_,q3⟩=>⟨(0,x),q1,Nx.st hst go ok,q3⟩
 | false=>
  have hgd:=go.run hst;by_cases h1:x.c=x.cel.length
  ·have hat:=hgd.yh h1;obtain⟨tn,c,t1,t2,t3,t4,t5,t6,t7,t8⟩:=hat.room hg;cases c with
   | zero=>exact t1.elim
   | succ c=>
    refine(oa i hst h1 t7 (by omega) hs).mono λ e w' ⟨q,q1,_,q3⟩=>⟨(((x.cs.length+1:Nat):Int),{x with cs:=x.cs++[i],pc:=q.1.1,cc:=q.1.2,cel:=x.cel++[((x.cs.length+1:Nat):Int)],pl:=q.2.1,kl:=q.2.2,c:=x.c+1}),q1,?_,q3⟩
    have hgo:gI g {x with cs:=x.cs++[i],pc:=q.1.1,cc:=q.1.2,cel:=x.cel++[((x.cs.length+1:Nat):Int)],pl:=q.2.1,kl:=q.2.2,c:=x.c+1} (K ((x.cs.length+1:Nat):Int)) :=
     hat.eF (ms:=[]) (cl:=[((x.cs.length+1:Nat):Int)]) (gn:=[]) (N:=[]) (λ L=>Wk.L6 _) (Sp.cell i K x.mm) hst rfl (by simp) rfl (by simp) (by simp) rfl rfl rfl rfl rfl
    have hlc:(x.cs++[i]).length=x.cs.length+1:=by simp
    refine⟨hgo,⟨ok.fit,λ v hv=>(ok.nd v hv).mono (Nat.le_refl _) (by show _<=(x.cs++[i]).length;omega),λ v hv=>?_,ok.got,ok.made,ok.two,ok.lL,by show(x.cs++[i]).length<=_;omega,ok.lg,ok.la,ok.lm,?_,ok.le,ok.fr,ok.ys,ok.gen0,ok.ms,ok.m1⟩,by simp,by show _<=(x.cs++[i]).length;omega,bN _⟩
    ·rcases List.mem_append.1 hv with h|h;·exact ok.cs v h
     ·rw[List.mem_singleton.1 h];exact hi
    ·show x.c+1<=(x.cel++[((x.cs.length+1:Nat):Int)]).length;rw[List.length_append,List.length_cons,List.length_nil];omega
  ·have h2:x.c<x.cel.length:=by have:=ok.lk;omega
   have hml:x.cel.length<=274877906944:=by obtain⟨R,hR⟩:=hgd;obtain⟨c2,_,_,u3⟩:=hR.full.wR (Nat.le_refl 64) hg.wR (by have:=hR.hN;omega);have:=hg.hN;have:=hR.hN;omega
   refine(H4 i hst h2 hml hs).mono λ e w' ⟨_,q1,_,q3⟩=>⟨(x.cel.getD x.c 0,{x with c:=x.c+1}),q1,?_,q3⟩;exact⟨.inl ⟨hst,hgd.H4 h2⟩,ok.upa rfl rfl rfl rfl rfl rfl ok.la ok.lm h2 ok.le ok.fr,by simp,Nat.le_refl _,bN _⟩
theorem r8(hg:g.Ok)(K:Int->Tr)(go:gI g x (.gen K))(ok:x.Ok)(hs:SF w D (xH k bx bm x dn rs) A [] (xW x) w):Calls prog 230 #[.pointer (some ⟨bx,0,none⟩)] w λ e w'=>∃q:Int×XS,e=.returned (.int .i64 q.1)/\Nx g x q.2 [] (K q.1) 0/\SF w D (xH k bx bm q.2 dn rs) [] [] (xW q.2) w':=by
 cases hst:x.st with
 | true=>exact(aAT hst hs).mono λ e w' ⟨_,q1,_,q3⟩=>⟨(0,x),q1,Nx.st hst go ok,q3⟩
 | false=>
  have hgd:=go.run hst;by_cases h1:x.g=x.gns.length
  ·have hat:=hgd.aA0 h1;obtain⟨tn,c,t1,t2,t3,t4,t5,t6,t7,t8⟩:=hat.room hg;cases c with
   | zero=>exact t1.elim
   | succ c=>
    refine(w9 hst h1 t8 ⟨by have:=ok.gen0;omega,by omega⟩ hs).mono λ e w' ⟨q,q1,_,q3⟩=>⟨(x.gen+1,{x with gen:=x.gen+1,gns:=x.gns++[x.gen+1],pe:=q.1,ke:=q.2,g:=x.g+1}),q1,?_,q3⟩
    have hgo:gI g {x with gen:=x.gen+1,gns:=x.gns++[x.gen+1],pe:=q.1,ke:=q.2,g:=x.g+1} (K (x.gen+1)) :=
     hat.eF (ms:=[]) (cl:=[]) (gn:=[x.gen+1]) (N:=[]) (λ L=>Wk.aDY _) (Sp.gen K x.mm) hst rfl (by simp) (by simp) rfl (by simp) rfl rfl rfl rfl rfl
    refine⟨hgo,⟨ok.fit,ok.nd,ok.cs,ok.got,ok.made,ok.two,ok.lL,ok.lc,ok.lg,ok.la,ok.lm,ok.lk,?_,ok.fr,ok.ys,?_,ok.ms,ok.m1⟩,by simp,Nat.le_refl _,bN _⟩;·show x.g+1<=(x.gns++[x.gen+1]).length;rw[List.length_append,List.length_cons,List.length_nil];omega
    ·show 0<=x.gen+1;have:=ok.gen0;omega
  ·have h2:x.g<x.gns.length:=by have:=ok.le;omega
   have hml:x.gns.length<=274877906944:=by obtain⟨R,hR⟩:=hgd;obtain⟨c2,_,_,u3⟩:=hR.full.wR (Nat.le_refl 64) hg.wR (by have:=hR.hN;omega);have:=hg.hN;have:=hR.hN;omega
   refine(Nw hst h2 hml hs).mono λ e w' ⟨_,q1,_,q3⟩=>⟨(x.gns.getD x.g 0,{x with g:=x.g+1}),q1,?_,q3⟩;exact⟨.inl ⟨hst,hgd.Nw h2⟩,ok.upa rfl rfl rfl rfl rfl rfl ok.la ok.lm ok.lk h2 ok.fr,by simp,Nat.le_refl _,bN _⟩
theorem cQ(r:Int)(K:Nv->Tr)(hr:r<=x.L.length)(go:gI g x (.node r K))(ok:x.Ok)(hs:SF w D (xH k bx bm x dn rs) A [] (xW x) w):Calls prog 211 #[.pointer (some ⟨bx,0,none⟩),.int .i64 r] w λ e w'=>∃q:Unit,e=.returned (aB x.L r).nd.v/\(gI g x (K (aB x.L r).c)/\mX x.L.length x.cs.length (aB x.L r).c)/\SF w D (xH k bx bm x dn rs) [] [] (xW x) w':=by have hl:=ok.lL;refine(fU r (by omega) ok hs).mono λ e w' ⟨q,q1,_,q3⟩=>⟨q,q1,⟨?_,ok.nv r⟩,q3⟩;have:=go.node hr;rw[show bE x.nodes r=(aB x.L r).c from(Bg x.L r).symm] at this;exact this
end
end
end Go.Proofs.YtbajmaoegmbfgaaGreat
namespace Go.Ct
open Go Go.RowKit
section
theorem Ch.nx0{g:Gx}{x0 x x':XS}{F:Fr}{t:Tr}{b:Int}(h:Nx g x x' [] t b)(hc:Ch x0 x F):Ch x0 x' F:=by have:=Ch.nx h hc;exact this
theorem mX.i64{n c:Nat}{v:aQ}(h:mX n c v.c)(hn:n<=137438953600)(hc:c<=137438953600):v.nd.bS<=9223372036854775807/\v.nd.new<=9223372036854775807/\v.nd.exp<=9223372036854775807/\v.nd.main<=9223372036854775807/\v.nd.prev<=9223372036854775807/\v.nd.status<=9223372036854775807:=by have h1:v.nd.bS<=n:=h.bS;have h2:v.nd.new<=n:=h.new;have h3:v.nd.exp<=n:=h.exp;have h4:v.nd.main<=c:=h.main;have h5:v.nd.prev<=c:=h.prev;have h6:v.nd.status<=c:=h.status;omega
end
end Go.Ct
namespace Go.Proofs.YtbajmaoegmbfgaaGreat
open Go.Proofs.Tryz
open Go Go.RowKit Go.Ct
section
section
variable{k:Cl}{bx bm:Nat}{x:XS}{dn:Bool}{rs:Rs}{D:List Nat}{A:Fr}{w:World}{g:Gx}
abbrev Pc(t:dW):Value:=.agg ⟨[.int .i64 t.root,.bool t.ro]⟩
theorem Jn(v s:Int)(K:Int->Tr)(hv:v<=x.L.length)(go:gI g x (aA7 v s K))(ok:x.Ok)(hs:SF w D (xH k bx bm x dn rs) A [] (xW x) w):Calls prog 214 #[.pointer (some ⟨bx,0,none⟩),.int .i64 v,.int .i64 s] w λ e w'=>∃q:Int,e=.returned (.int .i64 q)/\(gI g x (K q)/\q<=x.L.length)/\SF w D (xH k bx bm x dn rs) [] [] (xW x) w':=by
 refine enter func214 ntmps214 rfl rfl (cJ hs) ?_;simp only[cC];refine Ka7 ?_;refine tG ?_;refine bD (λ c8=>?_) (λ c8=>?_);·refine jD ?_;refine aD (cM (hs:=xH k bx bm x dn rs) (os:=xW x) (hc:=λ w hs=>cQ v _ hv go ok hs)) (λ x11 h11=>?_);refine cP ?_;refine J1 ?_;refine aS results214 (λ w hw=>?_);exact⟨_,rfl,⟨h11.1.to (λ _=>by rw[if_pos (by assumption)];rfl),h11.2.new⟩,hw.bB⟩
 ·refine Bo ?_;refine aD (cM (hs:=xH k bx bm x dn rs) (os:=xW x) (hc:=λ w hs=>cQ v _ hv go ok hs)) (λ x15 h15=>?_);refine cP ?_;refine J1 ?_;refine aS results214 (λ w hw=>?_);exact⟨_,rfl,⟨h15.1.to (λ _=>by rw[if_neg (by assumption)];rfl),h15.2.bS⟩,hw.bB⟩
theorem aCb(hg:g.Ok)(t:dW)(K:Int->Tr)(ht:t.root<=9223372036854775807)(go:gI g x (zU t K))(ok:x.Ok)(hs:SF w D (xH k bx bm x dn rs) A [] (xW x) w):Calls prog 239 #[.pointer (some ⟨bx,0,none⟩),Pc t] w λ e w'=>∃q:Int×XS,e=.returned (.int .i64 q.1)/\Nx g x q.2 [] (K q.1) q.1/\SF w D (xH k bx bm q.2 dn rs) [] [] (xW q.2) w':=by
 refine enter func239 ntmps239 rfl rfl (cJ hs) ?_;simp only[cC];simp only[Pc];refine K1m ?_;intro x3;refine Ka5 ?_;refine J3 ?_;refine aD (cM (hs:=xH k bx bm x dn rs) (os:=xW x) (hc:=λ w hs=>rD hg t.root _ ht go ok hs)) (λ x11 h11=>?_);refine jG ?_;refine mP ?_;refine aA ?_;(refine eE 16 (λ g16=>?_) (λ g16=>?_)<;>refine Ka0 ?_);all_goals (refine Ka0 ?_;(first|refine aI ?_|(refine aF ?_;refine aD (cM (hs:=xH k bx bm x11.2 dn rs) (os:=xW x11.2) (hc:=λ w hs=>cQ x11.1 _ h11.bd h11.go h11.ok hs)) (λ x19 h19=>?_)));refine J87 ?_;refine aG ?_)
 all_goals
 refine bD (λ c22=>?_) (λ c22=>?_)
 ·all_goals (refine Ka4 ?_)
  all_goals refine aS results239 (λ w hw=>?_);exact⟨x11,rfl,h11.cR E1c h11.bd,hw.bB⟩
 ·try exact nv c22
  all_goals have g1:=h19.1.to (λ _=>if_neg c22);have hb1:=h19.2.i64 h11.ok.lL h11.ok.lc
  all_goals (refine Bo ?_;refine aA ?_;refine aD (cM (hs:=xH k bx bm x11.2 dn rs) (os:=xW x11.2) (hc:=λ w hs=>cQ x11.1 _ h11.bd g1 h11.ok hs)) (λ x27 h27=>?_);refine cP ?_;refine aD (cM (hs:=xH k bx bm x11.2 dn rs) (os:=xW x11.2) (hc:=λ w hs=>rD hg (aB x11.2.L x11.1).nd.status _ hb1.2.2.2.2.2 h27.1 h11.ok hs)) (λ x29 h29=>?_);refine jG ?_)
  all_goals
   refine eR [6,30,31,32,33,34,35,36,37,38,39,40,41,42,43] (λ q:Int×XS=>[(6,.int .i64 q.1)]) (λ q=>Nx g x q.2 [] (pT t x11.1 q.1 K) 0/\x11.1<=q.2.L.length) (λ q=>[(x3,.cells ⟨[.int .i64 t.root,.bool t.ro]⟩ 29 (0,0)),(bx,xO k bm q.2 dn rs),(bm,xM q.2)]) (λ _=>[]) (λ q=>xW q.2) (by decide) (λ _=>by exact rfl) ?_ (λ q f hx=>?_)
   ·refine aT ?_;refine yG ?_;refine tG ?_;refine bD (λ c31=>?_) (λ c31=>?_)
    ·have g2:=h29.go.to (λ _=>if_pos c31);have hv2:x11.1<=x29.2.L.length:=by have:=h29.len;have:=h11.bd;omega
     refine Kc4 ?_;refine aD (cM (hs:=xH k bx bm x29.2 dn rs) (os:=xW x29.2) (hc:=λ w hs=>cQ x11.1 _ hv2 g2 h29.ok hs)) (λ x35 h35=>?_);refine cP ?_;refine aD (cM (hs:=xH k bx bm x29.2 dn rs) (os:=xW x29.2) (hc:=λ w hs=>wN hg (aB x29.2.L x11.1).nd.status 0 2 _ (h35.2.i64 h29.ok.lL h29.ok.lc).2.2.2.2.2 (by have:=h29.ok.two;omega) h35.1 h29.ok hs)) (λ x37 h37=>?_);refine aG ?_;refine yG ?_;refine qX ?_;refine aD (cM (hs:=xH k bx bm x37.2 dn rs) (os:=xW x37.2) (hc:=λ w hs=>cQ x11.1 _ (by have:=h37.len;omega) h37.go h37.ok hs)) (λ x41 h41=>?_);refine cP ?_;refine aD (cM (hs:=xH k bx bm x37.2 dn rs) (os:=xW x37.2) (hc:=λ w hs=>rD hg (aB x37.2.L x11.1).nd.status _ (h41.2.i64 h37.ok.lL h37.ok.lc).2.2.2.2.2 h41.1 h37.ok hs)) (λ x43 h43=>?_);refine J1 ?_;refine fC (x43) ?_;·exact⟨(h11.trans (h29.trans (h37.trans h43))).cR h43.go (bN _),by have:=h37.len;have:=h43.len;omega⟩
    ·have g2:=h29.go.to (λ _=>if_neg c31);have hv2:x11.1<=x29.2.L.length:=by have:=h29.len;have:=h11.bd;omega
     refine aW ?_;refine fC (x29) ?_;·exact⟨(h11.trans h29).cR g2 (bN _),hv2⟩
   refine K0a ?_
  all_goals (refine Kc4 ?_;refine aD (cM (hs:=xH k bx bm q.2 dn rs) (os:=xW q.2) (hc:=λ w hs=>Jn x11.1 q.1 _ hx.2 hx.1.go hx.1.ok hs)) (λ x47 h47=>?_);refine Ka5 ?_;refine J3 ?_;refine qX ?_;refine aD (cM (hs:=xH k bx bm q.2 dn rs) (os:=xW q.2) (hc:=λ w hs=>wN hg t.root x11.1 x47 _ ht h47.2 h47.1 hx.1.ok hs)) (λ x53 h53=>?_);refine aG ?_;refine Ka4 ?_)
  all_goals refine aS results239 (λ w hw=>?_);exact⟨(x47,x53.2),rfl,(hx.1.trans h53).cR h53.go (by have:=h53.len;have:=h47.2;omega),hw.bB⟩
end
end
end Go.Proofs.YtbajmaoegmbfgaaGreat
namespace Go.Ct
section
theorem na{n c:Nat}{p:Int}(h:p<=n):mX n c {(({Nd.zero with kind:=7,bS:=p}:Nd).c [] []) with main:=0,prev:=0,status:=0}:=⟨h,bN _,bN _,(λ r hr=>nomatch hr),bN _,bN _,bN _,⟨0,rfl,by decide⟩,⟨0,rfl,by decide⟩⟩
end
end Go.Ct
namespace Go.Proofs.YtbajmaoegmbfgaaGreat
open Go.Proofs.Tryz
open Go Go.RowKit Go.Ct
section
section
variable{k:Cl}{bx bm:Nat}{x:XS}{dn:Bool}{rs:Rs}{D:List Nat}{A:Fr}{w:World}{g:Gx}
theorem Sm(hg:g.Ok)(t:dW)(i m:Int)(K:Int->Tr)(ht:t.root<=9223372036854775807)(hi:i<=x.L.length)(hm:m<=x.L.length)(go:gI g x (oO t i m K))(ok:x.Ok)(hs:SF w D (xH k bx bm x dn rs) A [] (xW x) w):Calls prog 209 #[.pointer (some ⟨bx,0,none⟩),Pc t,.int .i64 i,.int .i64 m] w λ e w'=>∃q:Int×XS×List aQ,e=.returned (.int .i64 q.1)/\Nx g x q.2.1 q.2.2 (K q.1) q.1/\SF w D (xH k bx bm q.2.1 dn rs) [] (aN q.2.2) (xW q.2.1) w':=by
 refine enter func209 ntmps209 rfl rfl (cJ hs) ?_;simp only[cC];simp only[Pc];refine J0 ?_;refine bJ (λ x5=>?_);refine zQ ?_;refine aA ?_;refine aD (cM (hs:=xH k bx bm x dn rs) (os:=xW x) (hc:=λ w hs=>cQ m _ hm go ok hs)) (λ x14 h14=>?_);refine cP ?_;refine aD (cM (hs:=xH k bx bm x dn rs) (os:=xW x) (hc:=λ w hs=>rD hg (aB x.L m).nd.prev _ (h14.2.i64 ok.lL ok.lc).2.2.2.2.1 h14.1 ok hs)) (λ x16 h16=>?_);refine jG ?_;refine mP ?_;refine aA ?_;(refine eE 21 (λ g21=>?_) (λ g21=>?_)<;>refine Ka0 ?_);all_goals (refine vY ?_;refine aG ?_)
 all_goals
 refine bD (λ c24=>?_) (λ c24=>?_)
 ·all_goals (refine Ka4 ?_)
  all_goals refine aS results209 (λ w hw=>?_);exact⟨(m,x16.2,[]),rfl,h16.cR (by first|exact h16.go.bZ (by assumption)|exact h16.go.to (λ _=>if_pos (by assumption))) (by have:=h16.len;omega),hw.v4⟩
 ·try exact nv c24
  all_goals have g1:=h16.go.to (λ _=>if_neg c24);have hl16:=h16.len
  all_goals refine lB ?_
  all_goals
   refine eR [8,9,10,26,27,28,29,30,31,32,33,34,35,36,37,38,39,40,41,42,43,44,45,46,47,48,49,50,51,52,53,54,55,56,57,58,59,60,61,62,63,64,65,66,67,68,69,70,71,72,73,74,75,76,77] (λ q:Int×XS×List aQ=>[(9,.int .i64 q.1)]) (λ q=>Nx g x q.2.1 q.2.2 (Ka i m q.1 K) 0/\q.1<=q.2.1.L.length) (λ q=>[(x5,.cells ⟨[.int .i64 t.root,.bool t.ro]⟩ 29 (0,0)),(bx,xO k bm q.2.1 dn rs),(bm,xM q.2.1)]) (λ q=>aN q.2.2) (λ q=>xW q.2.1) (by decide) (λ _=>by exact rfl) ?_ (λ q f hx=>?_)
   ·refine aT ?_;refine Km ?_;refine aD (cM (hs:=xH k bx bm x16.2 dn rs) (os:=xW x16.2) (hc:=λ w hs=>cQ x16.1 _ h16.bd g1 h16.ok hs)) (λ x28 h28=>?_);refine aD (c0 (V:=.bool) (hc:=λ w1 hw=>yI (aB x16.2.L x16.1).nd w1)) (λ x29 h29=>?_);refine aG ?_;refine bD (λ c29=>?_) (λ c29=>?_)
    ·have g2:=h28.1.to (λ _=>if_pos (show cB (aB x16.2.L x16.1).c from h29.1 c29));refine Je ?_;refine eR [10,30,31,32,33,34,35,36,37,38,39,40,41,42,43] (λ y:Bool×XS=>[(10,.bool y.1)]) (λ y=>Nx g x y.2 [] (lG i m x16.1 y.1 K) 0/\x16.1<=y.2.L.length) (λ y=>[(x5,.cells ⟨[.int .i64 t.root,.bool t.ro]⟩ 29 (0,0)),(bx,xO k bm y.2 dn rs),(bm,xM y.2)]) (λ _=>[]) (λ y=>xW y.2) (by decide) (λ _=>by exact rfl) ?_ (λ y f hx=>?_)
     ·refine aT ?_;refine dS ?_;refine J3 ?_;refine oG ?_;refine bD (λ c32=>?_) (λ c32=>?_)
      ·have g3:=g2.to (λ _=>if_neg (by simpa using c32));refine Km ?_;refine bO ?_;refine aD (cM (hs:=xH k bx bm x16.2 dn rs) (os:=xW x16.2) (hc:=λ w hs=>aCb hg t _ ht g3 h16.ok hs)) (λ x36 h36=>?_);refine aD (cM (hs:=xH k bx bm x36.2 dn rs) (os:=xW x36.2) (hc:=λ w hs=>cQ x36.1 _ h36.bd h36.go h36.ok hs)) (λ x37 h37=>?_);refine cP ?_;refine qX ?_;refine aD (cM (hs:=xH k bx bm x36.2 dn rs) (os:=xW x36.2) (hc:=λ w hs=>cQ i _ (by have:=h36.len;omega) h37.1 h36.ok hs)) (λ x41 h41=>?_);refine cP ?_;refine Ti ?_;refine fC (((aB x36.2.L x36.1).nd.gen==(aB x36.2.L i).nd.gen,x36.2)) ?_
       ·exact⟨(h16.trans h36).cR h41.1 (bN _),(show x16.1<=(x36.2.L.length:Int) by have:=h36.len;have:=h16.bd;omega)⟩
      ·have g3:=g2.to (λ _=>if_pos (by simpa using c32));refine aW ?_;refine fC ((false,x16.2)) ?_
       ·exact⟨h16.cR g3 (bN _),h16.bd⟩
     refine K0a ?_;have hly:=hx.1.len;refine aT ?_;refine eR [44,45,46,47,48,49,50,51,52,53,54,55,56,57,58,59,60,61,62] (λ z:XS×List aQ=>[]) (λ z=>Nx g x z.1 z.2 (kP i m K) 0) (λ z=>[(x5,.cells ⟨[.int .i64 t.root,.bool t.ro]⟩ 29 (0,0)),(bx,xO k bm z.1 dn rs),(bm,xM z.1)]) (λ z=>aN z.2) (λ z=>xW z.1) (by decide) (λ _=>by exact rfl) ?_ (λ z f hx=>?_)
     ·refine aT ?_;refine yG ?_;refine aG ?_;refine bD (λ c44=>?_) (λ c44=>?_)
      ·have g4:=hx.1.go.to (λ _=>if_pos c44);refine yG ?_;refine qX ?_;refine aD (cM (hs:=xH k bx bm y.2 dn rs) (os:=xW y.2) (hc:=λ w hs=>cQ m _ (by omega) g4 hx.1.ok hs)) (λ x48 h48=>?_);refine cP ?_;refine aA ?_;refine aD (cM (hs:=xH k bx bm y.2 dn rs) (os:=xW y.2) (hc:=λ w hs=>wN hg (aB y.2.L m).nd.prev x16.1 0 _ (h48.2.i64 hx.1.ok.lL hx.1.ok.lc).2.2.2.2.1 (bN _) h48.1 hx.1.ok hs)) (λ x51 h51=>?_);refine aG ?_;refine fC ((x51.2,[])) ?_ (hw1:=λ w hw=>hw.v6)
       ·exact(hx.1.trans h51).cR h51.go (bN _)
      ·have g4:=hx.1.go.to (λ _=>if_neg (by rw[c44];decide));refine yG ?_;refine qX ?_;refine aD (cM (hs:=xH k bx bm y.2 dn rs) (os:=xW y.2) (hc:=λ w hs=>cQ m _ (by omega) g4 hx.1.ok hs)) (λ x55 h55=>?_);refine cP ?_;refine qX ?_;refine aA ?_;refine bM ?_;refine aD (cM (hs:=xH k bx bm y.2 dn rs) (os:=xW y.2) (A0:=[(none,aH []),(none,dF [])]) (hc:=λ w hs=>iD hg (n:={Nd.zero with kind:=7,bS:=x16.1}) (xs:=[]) (ys:=[]) 0 _ rfl rfl (by decide) (Nat.zero_le _) (na hx.2) (bN _) h55.1 hx.1.ok hs)) (λ x61 h61=>?_);refine aD (cM (hs:=xH k bx bm x61.2.1 dn rs) (os:=xW x61.2.1) (hc:=λ w hs=>wN hg (aB y.2.L m).nd.prev x16.1 x61.1 _ (h55.2.i64 hx.1.ok.lL hx.1.ok.lc).2.2.2.2.1 h61.bd h61.go h61.ok hs)) (λ x62 h62=>?_);refine aG ?_;refine fC ((x62.2,x61.2.2)) ?_ (hw1:=λ w hw=>by rw[List.append_nil] at hw;exact hw.v6)
       ·exact(hx.1.trans (h61.trans h62)).ext' h62.go (bN _)
     refine K0a ?_;have hlz:=hx.len;refine Kc4 ?_;refine aD (cM (hs:=xH k bx bm z.1 dn rs) (os:=xW z.1) (hc:=λ w hs=>cQ m _ (by omega) hx.go hx.ok hs)) (λ x66 h66=>?_);refine cP ?_;refine aD (cM (hs:=xH k bx bm z.1 dn rs) (os:=xW z.1) (hc:=λ w hs=>rD hg (aB z.1.L m).nd.prev _ (h66.2.i64 hx.ok.lL hx.ok.lc).2.2.2.2.1 h66.1 hx.ok hs)) (λ x68 h68=>?_);refine J1 ?_;refine mP ?_;refine aA ?_;(refine eE 73 (λ g73=>?_) (λ g73=>?_)<;>refine Ka0 ?_);all_goals (refine vY ?_;refine aG ?_)
     all_goals
     refine bD (λ c76=>?_) (λ c76=>?_)
     ·all_goals (refine Ka4 ?_)
      all_goals refine aS results209 (λ w hw=>?_);exact⟨(m,x68.2,z.2),rfl,(hx.trans h68).ext' (by first|exact h68.go.bZ (by assumption)|exact h68.go.to (λ _=>if_pos (by assumption))) (by have:=h68.len;omega),hw.v4⟩
     ·try exact nv c76
      all_goals have g5:=h68.go.to (λ _=>if_neg c76)
      all_goals refine aW ?_
      all_goals refine fC ((x68.1,x68.2,z.2)) ?_ (hw1:=λ w hw=>hw.v6);·exact⟨(hx.trans h68).ext' g5 (bN _),h68.bd⟩
    ·have g2:=h28.1.to (λ _=>if_neg (show ¬cB (aB x16.2.L x16.1).c from λ h=>absurd (h29.2 h) (by rw[c29];decide)));refine aW ?_;refine fC ((x16.1,x16.2,[])) ?_ (hw1:=λ w hw=>hw.v6)
     ·exact⟨h16.cR g2 (bN _),h16.bd⟩
   refine K0a ?_;have hlq:=hx.1.len
  all_goals (refine Kc4 ?_;refine aD (cM (hs:=xH k bx bm q.2.1 dn rs) (os:=xW q.2.1) (hc:=λ w hs=>cQ i _ (by omega) hx.1.go hx.1.ok hs)) (λ x81 h81=>?_);refine cP ?_;refine qX ?_;refine aA ?_;refine aD (cM (hs:=xH k bx bm q.2.1 dn rs) (os:=xW q.2.1) (hc:=λ w hs=>cQ q.1 _ hx.2 h81.1 hx.1.ok hs)) (λ x86 h86=>?_);refine cP ?_;refine aD (cM (hs:=xH k bx bm q.2.1 dn rs) (os:=xW q.2.1) (hc:=λ w hs=>wN hg (aB q.2.1.L i).nd.main m (aB q.2.1.L q.1).nd.bS _ (h81.2.i64 hx.1.ok.lL hx.1.ok.lc).2.2.2.1 h86.2.bS h86.1 hx.1.ok hs)) (λ x88 h88=>?_);refine aG ?_;refine jD ?_;refine aD (cM (hs:=xH k bx bm x88.2 dn rs) (os:=xW x88.2) (hc:=λ w hs=>cQ q.1 _ (by have:=h88.len;omega) h88.go h88.ok hs)) (λ x91 h91=>?_);refine cP ?_;refine J1 ?_)
  all_goals refine aS results209 (λ w hw=>?_);exact⟨((aB x88.2.L q.1).nd.bS,x88.2,q.2.2),rfl,(hx.1.trans h88).ext' h91.1 h91.2.bS,hw.v4⟩
end
end
end Go.Proofs.YtbajmaoegmbfgaaGreat
namespace Go.Ct
section
theorem pb{n c:Nat}{a b d:Int}(h1:a<=n)(h2:b<=n)(h3:d<=n):mX n c {(({Nd.zero with kind:=8,bS:=a,exp:=b,new:=d}:Nd).c [] []) with main:=0,prev:=0,status:=0}:=⟨h1,h2,h3,(λ r hr=>nomatch hr),bN _,bN _,bN _,⟨0,rfl,by decide⟩,⟨0,rfl,by decide⟩⟩
end
end Go.Ct
namespace Go.Proofs.YtbajmaoegmbfgaaGreat
open Go.Proofs.Tryz
open Go Go.RowKit Go.Ct
section
section
variable{k:Cl}{bx bm:Nat}{x:XS}{dn:Bool}{rs:Rs}{D:List Nat}{A:Fr}{w:World}{g:Gx}
theorem pS(hg:g.Ok)(t:dW)(i:Int)(K:Int->Tr)(ht:t.root<=9223372036854775807)(hi:i<=x.L.length)(go:gI g x (iM t i K))(ok:x.Ok)(hs:SF w D (xH k bx bm x dn rs) A [] (xW x) w):Calls prog 177 #[.pointer (some ⟨bx,0,none⟩),Pc t,.int .i64 i] w λ e w'=>∃q:Int×XS×List aQ,e=.returned (.int .i64 q.1)/\Nx g x q.2.1 q.2.2 (K q.1) q.1/\SF w D (xH k bx bm q.2.1 dn rs) [] (aN q.2.2) (xW q.2.1) w':=by refine enter func177 ntmps177 rfl rfl (cJ hs) ?_;simp only[cC];simp only[Pc];refine J0 ?_;refine bJ (λ x4=>?_);refine jG ?_;refine eI [(0,[]),(1,[]),(2,[]),(3,[]),(4,[]),(5,[]),(6,[1]),(7,[]),(8,[1]),(9,[]),(10,[])] ?_;refine aV ?_;refine Kb4 ?_;refine iW ?_;refine bI (i:=6) (hq:=(cM (hs:=xH k bx bm x dn rs) (os:=xW x) (hc:=λ w hs=>cQ i _ hi go ok hs))) (h:=λ x13 h13=>?_);refine sF ?_;refine bI (i:=8) (hq:=(cM (hs:=xH k bx bm x dn rs) (os:=xW x) (hc:=λ w hs=>rD hg (aB x.L i).nd.main _ (h13.2.i64 ok.lL ok.lc).2.2.2.1 h13.1 ok hs))) (h:=λ x15 h15=>?_);refine bI (i:=9) (hq:=(cM (hs:=xH k bx bm x15.2 dn rs) (os:=xW x15.2) (hc:=λ w hs=>Sm hg t i x15.1 _ ht (by have:=h15.len;omega) h15.bd h15.go h15.ok hs))) (h:=λ x16 h16=>?_);refine J7 ?_;refine aS results177 (λ w hw=>?_);exact⟨x16,rfl,h15.trans h16,by rw[List.append_nil] at hw;exact hw.v4⟩
theorem Qu(hg:g.Ok)(t:dW)(v:Int)(K:Tr)(ht:t.root<=9223372036854775807)(hv:v<=x.L.length)(go:gI g x (qD t v K))(ok:x.Ok)(hs:SF w D (xH k bx bm x dn rs) A [] (xW x) w):Calls prog 213 #[.pointer (some ⟨bx,0,none⟩),Pc t,.int .i64 v] w λ e w'=>∃q:XS×List aQ,e=.returned (.tuple #[])/\Nx g x q.1 q.2 K 0/\SF w D (xH k bx bm q.1 dn rs) [] (aN q.2) (xW q.1) w':=by
 refine enter func213 ntmps213 rfl rfl (cJ hs) ?_;simp only[cC];simp only[Pc];refine J0 ?_;refine bJ (λ x4=>?_);refine aG ?_;refine Je ?_;refine aT ?_;refine eI [(0,[]),(1,[]),(2,[]),(3,[]),(7,[]),(8,[]),(4,[1]),(5,[]),(6,[]),(9,[]),(10,[]),(11,[])] ?_;refine aV ?_;refine Kb4 ?_;refine iW ?_;refine bI (i:=4) (hq:=(cM (hs:=xH k bx bm x dn rs) (os:=xW x) (hc:=λ w hs=>cQ v _ hv go ok hs))) (h:=λ x11 h11=>?_);refine sF ?_;refine bI (i:=6) (hq:=(cM (hs:=xH k bx bm x dn rs) (os:=xW x) (hc:=λ w hs=>pS hg t (aB x.L v).nd.bS _ ht h11.2.bS h11.1 ok hs))) (h:=λ x13 h13=>?_);refine bI (i:=9) (hq:=(cM (hs:=xH k bx bm x13.2.1 dn rs) (os:=xW x13.2.1) (hc:=λ w hs=>cQ v _ (by have:=h13.len;omega) h13.go h13.ok hs))) (h:=λ x16 h16=>?_);refine sF ?_;refine pI ?_;refine eN ?_;refine bD (λ c18=>?_) (λ c18=>?_)
 ·have gx:gI g x13.2.1 (.node v λ n3=>.kG n3.status 0 1 λ _=>K):=h16.1.to (λ _=>by rw[show x13.1=(aB x13.2.1.L v).c.exp from c18];simp only[if_true]);have h2e:(1:Int)<=x13.2.1.L.length:=by have:=h13.ok.two;omega
  refine dS ?_;refine J1 ?_;refine yG ?_;refine qX ?_;refine aD (cM (hs:=xH k bx bm x13.2.1 dn rs) (os:=xW x13.2.1) (hc:=λ w hs=>cQ v _ (by have:=h13.len;omega) gx h13.ok hs)) (λ x22 h22=>?_);refine cP ?_;refine aA ?_;(refine aP (by exact cM (hs:=xH k bx bm x13.2.1 dn rs) (os:=xW x13.2.1) (hc:=λ w hs=>wN hg (aB x13.2.1.L v).nd.status 0 1 _ (h22.2.i64 h13.ok.lL h13.ok.lc).2.2.2.2.2 h2e h22.1 h13.ok hs)) (λ x25=>?_);try (refine eP (λ h25=>?_)));refine aG ?_;refine Cp results213 (λ w hw=>?_);rw[List.append_nil] at hw;exact⟨(x25.2,x13.2.2),rfl,(h13.trans h25).ext' h25.go (bN _),hw.v4⟩
 ·have gx:gI g x13.2.1 (.node v λ n3=>.kG n3.status 0 2 λ _=>K):=h16.1.to (λ _=>by simp only[if_neg (show ¬x13.1=(aB x13.2.1.L v).c.exp from c18)]);have h2e:(2:Int)<=x13.2.1.L.length:=by have:=h13.ok.two;omega
  refine aW ?_;refine yG ?_;refine qX ?_;refine aD (cM (hs:=xH k bx bm x13.2.1 dn rs) (os:=xW x13.2.1) (hc:=λ w hs=>cQ v _ (by have:=h13.len;omega) gx h13.ok hs)) (λ x22 h22=>?_);refine cP ?_;refine aA ?_;(refine aP (by exact cM (hs:=xH k bx bm x13.2.1 dn rs) (os:=xW x13.2.1) (hc:=λ w hs=>wN hg (aB x13.2.1.L v).nd.status 0 2 _ (h22.2.i64 h13.ok.lL h13.ok.lc).2.2.2.2.2 h2e h22.1 h13.ok hs)) (λ x25=>?_);try (refine eP (λ h25=>?_)));refine aG ?_;refine Cp results213 (λ w hw=>?_);rw[List.append_nil] at hw;exact⟨(x25.2,x13.2.2),rfl,(h13.trans h25).ext' h25.go (bN _),hw.v4⟩
theorem D5(hg:g.Ok)(t:dW)(K:Int->Tr)(ht:t.root<=9223372036854775807)(go:gI g x (kI t K))(ok:x.Ok)(hs:SF w D (xH k bx bm x dn rs) A [] (xW x) w):Calls prog 179 #[.pointer (some ⟨bx,0,none⟩),Pc t] w λ e w'=>∃q:Int×XS×List aQ,e=.returned (.int .i64 q.1)/\Nx g x q.2.1 q.2.2 (K q.1) q.1/\SF w D (xH k bx bm q.2.1 dn rs) [] (aN q.2.2) (xW q.2.1) w':=by
 refine enter func179 ntmps179 rfl rfl (cJ hs) ?_;simp only[cC];simp only[Pc];refine K1m ?_;intro x3;refine Ka5 ?_;refine J3 ?_;refine aD (cM (hs:=xH k bx bm x dn rs) (os:=xW x) (hc:=λ w hs=>rD hg t.root _ ht go ok hs)) (λ x11 h11=>?_);refine jG ?_;refine mP ?_;refine aA ?_;(refine eE 16 (λ g16=>?_) (λ g16=>?_)<;>refine Ka0 ?_);all_goals (refine Ka0 ?_;(first|refine aI ?_|(refine aF ?_;refine aD (cM (hs:=xH k bx bm x11.2 dn rs) (os:=xW x11.2) (hc:=λ w hs=>cQ x11.1 _ h11.bd h11.go h11.ok hs)) (λ x19 h19=>?_)));refine J87 ?_;refine aG ?_)
 all_goals
 refine bD (λ c22=>?_) (λ c22=>?_)
 ·all_goals (refine Ka4 ?_)
  all_goals refine aS results179 (λ w hw=>?_);exact⟨(x11.1,x11.2,[]),rfl,h11.cR E1c h11.bd,hw.bB (hF:=by exact bA.nil)⟩
 ·try exact nv c22
  all_goals have g1:=h19.1.to (λ _=>if_neg c22);have hb1:=h19.2.i64 h11.ok.lL h11.ok.lc
  all_goals (refine Bo ?_;refine aA ?_;refine aD (cM (hs:=xH k bx bm x11.2 dn rs) (os:=xW x11.2) (hc:=λ w hs=>cQ x11.1 _ h11.bd g1 h11.ok hs)) (λ x27 h27=>?_);refine cP ?_;refine aD (cM (hs:=xH k bx bm x11.2 dn rs) (os:=xW x11.2) (hc:=λ w hs=>rD hg (aB x11.2.L x11.1).nd.status _ hb1.2.2.2.2.2 h27.1 h11.ok hs)) (λ x29 h29=>?_);refine jG ?_)
  all_goals
   refine eR [6,30,31,32,33,34,35,36,37,38,39,40,41] (λ q:Int×XS×List aQ=>[(6,.int .i64 q.1)]) (λ q=>Nx g x q.2.1 q.2.2 (pT t x11.1 q.1 K) 0/\x11.1<=q.2.1.L.length) (λ q=>[(x3,.cells ⟨[.int .i64 t.root,.bool t.ro]⟩ 29 (0,0)),(bx,xO k bm q.2.1 dn rs),(bm,xM q.2.1)]) (λ q=>aN q.2.2) (λ q=>xW q.2.1) (by decide) (λ _=>by exact rfl) ?_ (λ q f hx=>?_)
   ·refine aT ?_;refine yG ?_;refine tG ?_;refine bD (λ c31=>?_) (λ c31=>?_)
    ·have g2:=h29.go.to (λ _=>if_pos c31);have hv2:x11.1<=x29.2.L.length:=by have:=h29.len;have:=h11.bd;omega
     refine J2 ?_;refine Kd0 ?_;refine aD (cM (hs:=xH k bx bm x29.2 dn rs) (os:=xW x29.2) (hc:=λ w hs=>Qu hg t x11.1 _ ht hv2 g2 h29.ok hs)) (λ x35 h35=>?_);refine aG ?_;refine yG ?_;refine qX ?_;refine aD (cM (hs:=xH k bx bm x35.1 dn rs) (os:=xW x35.1) (hc:=λ w hs=>cQ x11.1 _ (by have:=h35.len;omega) h35.go h35.ok hs)) (λ x39 h39=>?_);refine cP ?_;refine aD (cM (hs:=xH k bx bm x35.1 dn rs) (os:=xW x35.1) (hc:=λ w hs=>rD hg (aB x35.1.L x11.1).nd.status _ (h39.2.i64 h35.ok.lL h35.ok.lc).2.2.2.2.2 h39.1 h35.ok hs)) (λ x41 h41=>?_);refine J1 ?_;refine fC ((x41.1,x41.2,x35.2)) ?_ (hw1:=λ w hw=>by rw[List.append_nil] at hw;exact hw.v6);·exact⟨((h11.trans h29).trans (h35.trans h41)).ext' h41.go (bN _),(show x11.1<=(x41.2.L.length:Int) by have:=h35.len;have:=h41.len;omega)⟩
    ·have g2:=h29.go.to (λ _=>if_neg c31);have hv2:x11.1<=x29.2.L.length:=by have:=h29.len;have:=h11.bd;omega
     refine aW ?_;refine fC ((x29.1,x29.2,[])) ?_ (hw1:=λ w hw=>hw.back (hF:=by exact bA.nil));·exact⟨(h11.trans h29).cR g2 (bN _),hv2⟩
   refine K0a ?_
  all_goals (refine Kc4 ?_;refine aD (cM (hs:=xH k bx bm q.2.1 dn rs) (os:=xW q.2.1) (hc:=λ w hs=>Jn x11.1 q.1 _ hx.2 hx.1.go hx.1.ok hs)) (λ x45 h45=>?_);refine Ka5 ?_;refine J3 ?_;refine qX ?_;refine aD (cM (hs:=xH k bx bm q.2.1 dn rs) (os:=xW q.2.1) (hc:=λ w hs=>wN hg t.root x11.1 x45 _ ht h45.2 h45.1 hx.1.ok hs)) (λ x51 h51=>?_);refine aG ?_;refine Ka4 ?_)
  all_goals refine aS results179 (λ w hw=>?_);exact⟨(x45,x51.2,q.2.2),rfl,(hx.1.trans h51).ext' h51.go (by have:=h51.len;have:=h45.2;omega),hw.v4⟩
theorem uU(hg:g.Ok)(t:dW)(i bS n:Int)(K:Bool->Tr)(ht:t.root<=9223372036854775807)(hi:i<=x.L.length)(hn:n<=x.L.length)(go:gI g x (lH t i bS n K))(ok:x.Ok)(hs:SF w D (xH k bx bm x dn rs) A [] (xW x) w):Calls prog 178 #[.pointer (some ⟨bx,0,none⟩),Pc t,.int .i64 i,.int .i64 bS,.int .i64 n] w λ e w'=>∃q:Bool×XS×List aQ,e=.returned (.bool q.1)/\Nx g x q.2.1 q.2.2 (K q.1) 0/\SF w D (xH k bx bm q.2.1 dn rs) [] (aN q.2.2) (xW q.2.1) w':=by
 refine enter func178 ntmps178 rfl rfl (cJ hs) ?_;simp only[cC];simp only[Pc];refine J0 ?_;refine bJ (λ x6=>?_);refine jG ?_;refine Kc4 ?_;refine aD (cM (hs:=xH k bx bm x dn rs) (os:=xW x) (hc:=λ w hs=>cQ i _ hi go ok hs)) (λ x15 h15=>?_);refine cP ?_;refine qX ?_;refine aD (cM (hs:=xH k bx bm x dn rs) (os:=xW x) (hc:=λ w hs=>wN hg (aB x.L i).nd.main bS n _ (h15.2.i64 ok.lL ok.lc).2.2.2.1 hn h15.1 ok hs)) (λ x19 h19=>?_);refine oG ?_;refine bD (λ c20=>?_) (λ c20=>?_);·refine cU ?_;refine aS results178 (λ w hw=>?_);exact⟨(false,x19.2,[]),rfl,h19.cR (h19.go.to (λ _=>if_neg (by simpa using c20))) (bN _),hw.bB (hF:=by exact bA.nil)⟩
 ·have g1:=h19.go.to (λ _=>if_pos (by simpa using c20));have hl19:=h19.len;refine Kb3 ?_;refine bO ?_;refine qX ?_;refine aD (cM (hs:=xH k bx bm x19.2 dn rs) (os:=xW x19.2) (hc:=λ w hs=>Sm hg t i n _ ht (by omega) (by omega) g1 h19.ok hs)) (λ x25 h25=>?_);refine J1 ?_;refine mP ?_;refine Cr ?_;(refine eE 31 (λ g31=>?_) (λ g31=>?_)<;>refine Ka0 ?_);all_goals (refine Ka0 ?_;refine vY ?_;refine J1 ?_)
  all_goals
  refine aS results178 (λ w hw=>?_);rw[List.append_nil] at hw
  first
   | exact⟨(x25.1==n,x25.2.1,x25.2.2),rfl,(h19.trans h25).cR h25.go (bN _),hw.v4⟩
   | exact⟨(false,x25.2.1,x25.2.2),rfl,(h19.trans h25).cR (h25.go.bZ (by assumption)) (bN _),hw.v4⟩
end
end
end Go.Proofs.YtbajmaoegmbfgaaGreat
namespace Go.Ct
open Go Go.RowKit
section
theorem Ch.to{g:Gx}{x0 x X:XS}{F:Fr}{N:List aQ}{t t':Tr}{b b':Int}(h:Ch x0 X F)(h2:Nx g x X N t b)(go:gI g X t')(hc:x0.cs.length<=X.cs.length)(hb:b'<=X.L.length):∃N,Nx g x0 X N t' b'/\∀f∈aN N,f.2=[]∨f∈F:=by obtain⟨N,h3,h4⟩:=h;exact⟨N,⟨go,h2.ok,h3,hc,hb⟩,h4⟩
theorem XS.Ok.sU{w0 w:World}{M:List Nat}{H:List (Nat×Obj)}{A F:Fr}{O:List Ow}{x:XS}(ok:x.Ok)(h:SF w0 M H A F O w)(hA:∀f∈aN x.L,f∈A)(r:Int):sG w (aB x.L r).nd (aB x.L r).xs (aB x.L r).ys:=h.fq (Ch.base (F:=F)) hA ok r
end
end Go.Ct
namespace Go.Proofs.YtbajmaoegmbfgaaGreat
open Go.Proofs.Tryz
open Go Go.RowKit Go.Ct
section
structure wS(n:Nat)(o:Option (Nat×List Int)):Prop where
 out:∀q,o=some q->q.1<18446744073709551616/\q.2.length<=64/\∀r∈q.2,r<=n
variable{xs:List Int}{p:Nat}{r v:Int}
theorem gy{b:Nat}(h:BV b xs):xs.length<=64:=by rw[h.len];exact As b 64
theorem wg(h:v∈rV xs p r):v∈xs∨v=r:=by
 unfold rV at h;rcases List.mem_append.1 h with h|h;·exact .inl (List.mem_of_mem_take h)
 ·rcases List.mem_cons.1 h with h|h;·exact .inr h
  ·exact .inl (List.mem_of_mem_drop h)
theorem vj(h:v∈vM xs p r):v∈xs∨v=r:=by
 unfold vM at h;rcases List.mem_append.1 h with h|h;·exact .inl (List.mem_of_mem_take h)
 ·rcases List.mem_cons.1 h with h|h;·exact .inr h
  ·exact .inl (List.mem_of_mem_drop h)
theorem uf(h:v∈tE xs p):v∈xs:=by
 unfold tE at h;rcases List.mem_append.1 h with h|h;·exact List.mem_of_mem_take h
 ·exact List.mem_of_mem_drop h
section
variable{n:Nd}{xs:List Int}{ys:List Pr}{b m:Nat}
theorem y6(hb:n.bm=(b:Int))(hb2:b<18446744073709551616)(hx:∀r∈xs,r<=m){r:Int}(hr:r<=m)(i:Int):wS m (s8 n xs ys b i r):=⟨λ q hq=>by
 unfold s8 at hq;split at hq;·rename_i h;cases hq;obtain⟨h1,h2,h3⟩:=h;have hv:=h1.bv hb hb2;obtain⟨e1,e2,e3,e4⟩:=tJ h3;have:=(Vh hv (i:=i.toNat) (by omega) e3 h2).1;rw[<- e4] at this;exact⟨this.lt,gy this,λ v hv=>(wg hv).elim (hx v) (λ e=>e▸hr)⟩
 ·cases hq⟩
theorem yv(hb:n.bm=(b:Int))(hb2:b<18446744073709551616)(hx:∀r∈xs,r<=m){r:Int}(hr:r<=m)(i:Int):wS m (q9 n xs ys b i r):=⟨λ q hq=>by
 unfold q9 at hq;split at hq
 ·rename_i h;cases hq;obtain⟨h1,h0,h2,h3⟩:=h;have hv:=h1.bv hb hb2;have e:i=((i.toNat:Nat):Int):=by omega
  have hk:i.toNat<64:=by omega
  rw[e] at h3 ⊢;rw[rL b hk] at h3;have:=(Ix hv (i:=i.toNat) hk h3 h2).1;rw[qP b hk,pJ b hk];exact⟨this.lt,gy this,λ v hv=>(vj hv).elim (hx v) (λ e=>e▸hr)⟩
 ·cases hq⟩
theorem vh(hb:n.bm=(b:Int))(hb2:b<18446744073709551616)(hx:∀r∈xs,r<=m)(i:Int):wS m (tc n xs ys b i):=⟨λ q hq=>by
 unfold tc at hq;split at hq
 ·rename_i h;cases hq;obtain⟨h1,h3⟩:=h;have hv:=h1.bv hb hb2;obtain⟨e1,e2,e3,e4⟩:=tJ h3;have hk:i.toNat<64:=by omega
  have:=(Ug hv (i:=i.toNat) hk e3).1;have e:i=((i.toNat:Nat):Int):=by omega
  rw[e,uF b hk,pJ b hk];exact⟨this.lt,gy this,λ v hv=>hx v (uf hv)⟩
 ·cases hq⟩
end
theorem wS.nvB{m c:Nat}{o:Option (Nat×List Int)}(h:wS m o)(x:Option Addr×Nat):mX m c {(nN o x).c (nC o) [] with main:=0,prev:=0,status:=0}:=by
 rw[Jc];cases o with
 | none=>exact⟨bN _,bN _,bN _,(λ r hr=>nomatch hr),bN _,bN _,bN _,⟨0,rfl,by decide⟩,⟨0,rfl,by decide⟩⟩
 | some q=>have h1:=h.out q rfl;exact⟨bN _,bN _,bN _,h1.2.2,bN _,bN _,bN _,⟨q.1,rfl,h1.1⟩,⟨0,rfl,by decide⟩⟩
theorem wS.len{m:Nat}{o:Option (Nat×List Int)}(h:wS m o):(nC o).length<=274877906944:=by
 cases o with
 | none=>exact Nat.zero_le _
 | some q=>exact Nat.le_trans (h.out q rfl).2.1 (by decide)
theorem F5(o:Option (Nat×List Int))(x:Option Addr×Nat):(nN o x).brN=(nC o).length:=by cases o<;>rfl
theorem Fz(o:Option (Nat×List Int))(x:Option Addr×Nat):(nN o x).prN=([]:List Pr).length:=by cases o<;>rfl
theorem Vy{A F:Fr}{O:List Ow}{o:Option (Nat×List Int)}{x:Option Addr×Nat}:bH A ((x.1,aH (nC o))::F) O [((nN o x).brA,aH (nC o)),((nN o x).prA,dF [])]:=by
 cases o with
 | none=>exact .cons (.inl rfl) (.cons (.inl rfl) .nil)
 | some q=>exact .cons (.inr (.inr (.inl (.head _)))) (.cons (.inl rfl) .nil)
section
variable{v:aQ}{n c:Nat}{w:World}
theorem fK(h:mX n c v.c):v.nd.bm=((v.c.bm.toNat:Nat):Int)/\v.c.bm.toNat<18446744073709551616:=by obtain⟨b,h1,h2⟩:=h.bm;have h3:v.nd.bm=(b:Int):=h1;have h4:v.c.bm=(b:Int):=h1;rw[h3,h4];exact⟨by simp,by simpa using h2⟩
theorem Ld(h:mX n c v.c)(i:Int)(hr:sG w v.nd v.xs v.ys):Calls prog 216 #[v.nd.v,.int .i64 i] w λ e w'=>e=.returned (.tuple #[.int .i64 ((iU v.c i).getD 0),.bool (iU v.c i).isSome])/\St w [] [] w':=by have h1:=fK h;have:=oV (n:=v.nd) i h1.1 h1.2 hr;rw[aBt h1.1 i] at this;exact this
theorem mD(h:mX n c v.c)(i:Int):(iU v.c i).getD 0<=n:=by
 have h1:=fK h;have e:=aBt (xs:=v.xs) (ys:=v.ys) h1.1 i;rw[show iU v.c i=iU (v.nd.c v.xs v.ys) i from rfl,<- e];unfold Fj;split
 ·exact mU h.br _
 ·exact bN _
noncomputable abbrev Tc (v:aQ) (i r:Int):Option (Nat×List Int):=s8 v.nd v.xs v.ys v.c.bm.toNat i r
noncomputable abbrev dg (v:aQ) (i r:Int):Option (Nat×List Int):=q9 v.nd v.xs v.ys v.c.bm.toNat i r
noncomputable abbrev ic (v:aQ) (i:Int):Option (Nat×List Int):=tc v.nd v.xs v.ys v.c.bm.toNat i
theorem aCN(h:mX n c v.c)(i r:Int)(x:Option Addr×Nat):Up v.c i r=(nN (Tc v i r) x).c (nC (Tc v i r)) []:=by rw[Jc];exact(aDy (fK h).1 i r).symm
theorem aDf(h:mX n c v.c)(i r:Int)(x:Option Addr×Nat):nh v.c i r=(nN (dg v i r) x).c (nC (dg v i r)) []:=by rw[Jc];exact(aEg (fK h).1 i r).symm
theorem aAe(h:mX n c v.c)(i:Int)(x:Option Addr×Nat):Pg v.c i=(nN (ic v i) x).c (nC (ic v i)) []:=by rw[Jc];exact(aDg (fK h).1 i).symm
theorem aAy(h:mX n c v.c)(i r:Int)(hr:sG w v.nd v.xs v.ys):Calls prog 220 #[v.nd.v,.int .i64 i,.int .i64 r] w (Zv w (Tc v i r)):=N9 (n:=v.nd) i r (fK h).1 (fK h).2 hr
theorem ij(h:mX n c v.c)(i r:Int)(hr:sG w v.nd v.xs v.ys):Calls prog 249 #[v.nd.v,.int .i64 i,.int .i64 r] w (Zv w (dg v i r)):=Jx (n:=v.nd) i r (fK h).1 (fK h).2 hr
theorem aCV(h:mX n c v.c)(i:Int)(hr:sG w v.nd v.xs v.ys):Calls prog 252 #[v.nd.v,.int .i64 i] w (Zv w (ic v i)):=N5 (n:=v.nd) i (fK h).1 (fK h).2 hr
theorem mw(h:mX n c v.c){r:Int}(hr:r<=n)(i:Int):wS n (Tc v i r):=y6 (fK h).1 (fK h).2 h.br hr i
theorem aCS(h:mX n c v.c){r:Int}(hr:r<=n)(i:Int):wS n (dg v i r):=yv (fK h).1 (fK h).2 h.br hr i
theorem aDO(h:mX n c v.c)(i:Int):wS n (ic v i):=vh (fK h).1 (fK h).2 h.br i
end
theorem tP{n c:Nat}{g:Int}:mX n c {(({Nd.zero with kind:=2,gen:=g}:Nd).c [] []) with main:=0,prev:=0,status:=0}:=⟨bN _,bN _,bN _,(λ r hr=>nomatch hr),bN _,bN _,bN _,⟨0,rfl,by decide⟩,⟨0,rfl,by decide⟩⟩
section
variable{k:Cl}{bx bm:Nat}{x:XS}{dn:Bool}{rs:Rs}{D:List Nat}{A:Fr}{w:World}{g:Gx}
theorem Mk(hg:g.Ok)(t:dW)(o ex n:Int)(K:Bool->Tr)(ht:t.root<=9223372036854775807)(ho:o<=x.L.length)(he:ex<=x.L.length)(hn:n<=x.L.length)(go:gI g x (wI t o ex n K))(ok:x.Ok)(hs:SF w D (xH k bx bm x dn rs) A [] (xW x) w):Calls prog 180 #[.pointer (some ⟨bx,0,none⟩),Pc t,.int .i64 o,.int .i64 ex,.int .i64 n] w λ e w'=>∃q:Bool×XS×List aQ,e=.returned (.bool q.1)/\Nx g x q.2.1 q.2.2 (K q.1) 0/\SF w D (xH k bx bm q.2.1 dn rs) [] (aN q.2.2) (xW q.2.1) w':=by
 refine enter func180 ntmps180 rfl rfl (cJ hs) ?_;simp only[cC];simp only[Pc];refine J0 ?_;refine bJ (λ x6=>?_);refine zQ ?_;refine qX ?_;refine bM ?_;refine aD (cM (hs:=xH k bx bm x dn rs) (os:=xW x) (A0:=[(none,aH []),(none,dF [])]) (hc:=λ w hs=>iD hg (n:={Nd.zero with kind:=8,bS:=o,exp:=ex,new:=n}) (xs:=[]) (ys:=[]) 0 _ rfl rfl (by decide) (Nat.zero_le _) (pb ho he hn) (bN _) go ok hs)) (λ x18 h18=>?_);refine Kd9 ?_;refine J3 ?_;refine qX ?_;refine aD (cM (hs:=xH k bx bm x18.2.1 dn rs) (os:=xW x18.2.1) (hc:=λ w hs=>wN hg t.root o x18.1 _ ht h18.bd h18.go h18.ok hs)) (λ x24 h24=>?_);refine oG ?_;refine bD (λ c25=>?_) (λ c25=>?_)
 ·refine cU ?_;refine aS results180 (λ w hw=>?_);obtain⟨N,hN,hf⟩:=(Ch.base (F:=[])).nx h18 |>.nx0 h24 |>.to h24 (h24.go.to (λ _=>if_neg (by simpa using c25))) (by have:=h18.lc;have:=h24.lc;omega) (bN _)
  exact⟨(false,x24.2,N),rfl,hN,(hw.eY hf).v4⟩
 ·have g1:=h24.go.to (λ _=>if_pos (by simpa using c25));have hl24:=h24.len;have hb18:=h18.bd;refine Kb3 ?_;refine Kd0 ?_;refine aD (cM (hs:=xH k bx bm x24.2 dn rs) (os:=xW x24.2) (hc:=λ w hs=>Qu hg t x18.1 _ ht (by omega) g1 h24.ok hs)) (λ x29 h29=>?_);refine aG ?_;refine Kc4 ?_;refine aD (cM (hs:=xH k bx bm x29.1 dn rs) (os:=xW x29.1) (hc:=λ w hs=>cQ x18.1 _ (by have:=h29.len;omega) h29.go h29.ok hs)) (λ x33 h33=>?_);refine cP ?_;refine aD (cM (hs:=xH k bx bm x29.1 dn rs) (os:=xW x29.1) (hc:=λ w hs=>rD hg (aB x29.1.L x18.1).nd.status _ (h33.2.i64 h29.ok.lL h29.ok.lc).2.2.2.2.2 h33.1 h29.ok hs)) (λ x35 h35=>?_);refine jG ?_;refine eI [(0,[]),(1,[]),(2,[]),(3,[]),(4,[]),(5,[]),(6,[]),(7,[2]),(8,[])] ?_;refine aV ?_;refine mE ?_;refine iW ?_;refine iW ?_;refine bI (i:=7) (hq:=(cM (hs:=xH k bx bm x35.2 dn rs) (os:=xW x35.2) (hc:=λ w hs=>Jn x18.1 x35.1 _ (by have:=h29.len;have:=h35.len;omega) h35.go h35.ok hs))) (h:=λ x43 h43=>?_);refine bI (i:=8) (hq:=(cM (hs:=xH k bx bm x35.2 dn rs) (os:=xW x35.2) (hc:=λ w hs=>wN hg t.root x18.1 x43 _ ht h43.2 h43.1 h35.ok hs))) (h:=λ x44 h44=>?_);refine eN ?_;refine mP ?_;refine Cr ?_;(refine eE 50 (λ g50=>?_) (λ g50=>?_)<;>refine Ka0 ?_);all_goals (refine vY ?_;refine J1 ?_)
  all_goals
  refine aS results180 (λ w hw=>?_)
  first
   | (obtain⟨N,hN,hf⟩:=(Ch.nx h29 ((Ch.base (F:=[])).nx h18 |>.nx0 h24)) |>.nx0 h35 |>.nx0 h44 |>.to h44 h44.go (by have:=h18.lc;have:=h24.lc;have:=h29.lc;have:=h35.lc;have:=h44.lc;omega) (bN _);exact⟨(x35.1==1,x44.2,N),rfl,hN,(hw.eY hf).v4⟩)
   | (obtain⟨N,hN,hf⟩:=(Ch.nx h29 ((Ch.base (F:=[])).nx h18 |>.nx0 h24)) |>.nx0 h35 |>.nx0 h44 |>.to (t':=K false) h44 (h44.go.bZ (by assumption)) (by have:=h18.lc;have:=h24.lc;have:=h29.lc;have:=h35.lc;have:=h44.lc;omega) (bN _);exact⟨(false,x44.2,N),rfl,hN,(hw.eY hf).v4⟩)
theorem C3(hg:g.Ok)(c index r:Int)(K:Int->Tr)(hc:c<=x.L.length)(hr:r<=x.L.length)(hA:∀f∈aN x.L,f∈A)(go:gI g x (Ik c index r K))(ok:x.Ok)(hs:SF w D (xH k bx bm x dn rs) A [] (xW x) w):Calls prog 217 #[.pointer (some ⟨bx,0,none⟩),.int .i64 c,.int .i64 index,.int .i64 r] w λ e w'=>∃q:Int×XS×List aQ,e=.returned (.int .i64 q.1)/\Nx g x q.2.1 q.2.2 (K q.1) q.1/\SF w D (xH k bx bm q.2.1 dn rs) [] (aN q.2.2) (xW q.2.1) w':=by refine enter func217 ntmps217 rfl rfl (cJ hs) ?_;simp only[cC];refine Kc6 ?_;refine aD (cM (hs:=xH k bx bm x dn rs) (os:=xW x) (hc:=λ w hs=>cQ c _ hc go ok hs)) (λ x14 h14=>?_);refine qX ?_;refine aD (cF (hc:=λ w1 hw=>aAy (v:=aB x.L c) (ok.nv c) index r (ok.sU hw hA c))) (λ x17 h17=>?_);refine Pj ?_;refine aJ (λ x9=>?_);refine E8 ?_;refine J2 ?_;refine Kd0 ?_;refine aD (cM (hs:=xH k bx bm x dn rs) (os:=xW x) (A0:=[((nN (Tc (aB x.L c) index r) x17).brA,aH (nC (Tc (aB x.L c) index r))),((nN (Tc (aB x.L c) index r) x17).prA,dF [])]) (hA:=Vy) (hc:=λ w hs=>iD hg (n:=nN (Tc (aB x.L c) index r) x17) (xs:=nC (Tc (aB x.L c) index r)) (ys:=[]) c _ (F5 _ _) (Fz _ _) (mw (ok.nv c) hr index).len (Nat.zero_le _) ((mw (ok.nv c) hr index).nvB _) hc (by rw[<- aCN (ok.nv c)];exact h14.1) ok hs)) (λ x23 h23=>?_);refine J1 ?_;refine aS results217 (λ w hw=>?_);exact⟨x23,rfl,h23,hw.bB (hF:=by exact bA.iT λ f hf=>List.mem_append_left _ hf)⟩
end
end
end Go.Proofs.YtbajmaoegmbfgaaGreat
