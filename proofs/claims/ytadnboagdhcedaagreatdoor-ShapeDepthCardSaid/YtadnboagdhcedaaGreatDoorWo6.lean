/- Worlds: the state of a world; an operation is run in it, an execution makes a step. -/
import Derived.Test.YtadnboagdhcedaaGreatDoorGWo3
import Derived.Test.YtadnboagdhcedaaGreatDoorGWo4
import Derived.Test.YtadnboagdhcedaaGreatDoorGKx9
set_option linter.unusedSimpArgs false
set_option linter.unusedVariables false
namespace Go.Ct
open Go Go.RowKit
section
variable{α:Type}
theorem Be.pre:∀(es r:List α),Be (es++r) (List.replicate es.length 0) es r
 | [],r=>.nil
 | a::es,r=>.cons .head (Be.pre es r)
end
theorem Jy{P:Program}{f:FuncId}{vs:Array Value}{X:Type}{V:X->Value}{φ:X->Prop}{w0 w:World}{M:List Nat}{H hs H':List (Nat×Obj)}{A A0 F:Fr}{O os O':List Ow}{hs':X->List (Nat×Obj)}{os':X->List Ow}{Fc:X->Fr}
  (h:SF w0 M H A F O w) (pH:H.Perm (hs++H')) (pO:O.Perm (os++O')) (hA:bQ A F O' A0)
  (hc:SF w (Ks hs os) hs A0 [] os w->Calls P f vs w λ e w'=>∃x,e=.returned (V x)/\φ x/\SF w (Ks hs os) (hs' x) [] (Fc x) (os' x) w') :
  Calls P f vs w λ e w'=>∃x,e=.returned (V x)/\φ x/\SF w0 M (hs' x++H') A (Fc x++F) (os' x++O') w':=by
 have h1:=h.perm pH.symm pO.symm
 refine(hc (h1.Ff (Be.pre hs H') (Be.pre os O') hA)).mono λ e w' ⟨x,e1,hx,hw⟩=>⟨x,e1,hx,?_⟩
 have kperm:∀(a c:List (Nat×Obj)) (b d:List Ow),(Ks (a++c) (b++d)).Perm (Ks a b++Ks c d):=λ a c b d=>by
  unfold Ks
  rw[List.map_append,List.flatMap_append]
  simp only[List.append_assoc]
  refine List.Perm.append_left _ ?_
  rw[<- List.append_assoc,<- List.append_assoc]
  exact List.Perm.append_right _ List.perm_append_comm
 have nd0:=(kperm hs H' os O').nodup_iff.1 h1.dis
 have disj:∀b∈Ks hs os,b∉Ks H' O':=λ b hb hm=>(List.nodup_append.1 nd0).2.2 b hb b hm rfl
 exact h1.Yo (D:=Ks hs os) (Hm:=[]) (Hc:=hs' x) (H1:=H') (Fc:=Fc x) (Om:=[]) (Oc:=os' x) (O1:=O') hw (λ b hb=>(kperm hs H' os O').mem_iff.2 (List.mem_append_left _ hb))
  (λ p hpm=>.inr ⟨List.mem_append_right _ hpm,λ hm=>disj _ hm (dR.2 (.inl ⟨p,hpm,rfl⟩))⟩)
  (λ o ho=>.inr ⟨List.mem_append_right _ ho,λ b hb hm=>disj _ hm (dR.2 (.inr ⟨o,ho,hb⟩))⟩)
  (List.nodup_append.1 nd0).2.1
end Go.Ct
namespace Go.Proofs.YtadnboagdhcedaaGreatDoor
open Go Go.RowKit Go.Ct
structure EX where
 b:Nat
 k:Cl
 x:XS
 dn:Bool
 rs:Rs
 R:Tr
structure Wd where
 z:XS
 ts:List eA
 pt:Option Addr
 kt:Nat
 ex:List EX
 pe:Option Addr
 ke:Nat
def Cg(bm:Nat)(l:List EX):List (Nat×Obj):=l.map λ e=>(e.b,xO e.k bm e.x e.dn e.rs)
def Ar(l:List EX):List Ow:=l.flatMap λ e=>[⟨e.x.pg,aG e.x.got,e.x.kg,62,1⟩,⟨e.x.pm,aG e.x.made,e.x.km,62,1⟩,⟨e.x.pl,aG e.x.cel,e.x.kl,27,1⟩,⟨e.x.pe,aG e.x.gns,e.x.ke,3,1⟩]
def qT(l:List EX):List Nat:=l.map EX.b
abbrev wH(m bw bm:Nat)(W:Wd):List (Nat×Obj):=(bw,nK bm (m:Int) W.pt W.ts.length W.kt W.pe (qT W.ex).length W.ke)::(bm,xM W.z)::Cg bm W.ex
abbrev wO(W:Wd):List Ow:=⟨W.pt,sN W.ts,W.kt,29,2⟩::⟨W.pe,xS (qT W.ex),W.ke,73,1⟩::⟨W.z.pn,gR W.z.L,W.z.cn,77,14⟩::⟨W.z.pc,aG W.z.cs,W.z.cc,62,1⟩::Ar W.ex
def XS.wm(x z:XS):XS:={x with L:=z.L,cs:=z.cs,gen:=z.gen,acc:=z.acc,pn:=z.pn,cn:=z.cn,pc:=z.pc,cc:=z.cc}
theorem tj{x z z':XS}{N:List aL}(h:(XS.wm x z).Ok)(h':z'.Ok)(e:z'.L=z.L++N):(XS.wm x z').Ok:=by
 have hl:z.L.length<=z'.L.length:=by rw[e,List.length_append];omega
 exact⟨h'.fit,h'.nd,h'.cs,λ v hv=>by have:=h.got v hv;show v<=z'.L.length;have h2:v<=z.L.length:=this;omega,λ v hv=>by have:=h.made v hv;show v<=z'.L.length;have h2:v<=z.L.length:=this;omega,h'.two,h'.lL,h'.lc,h.lg,h.la,h.lm,h.lk,h.le,h.fr,h'.ys,h'.gen0,h.ms,h.m1⟩
theorem R5{z:XS}(h:z.Ok):(XS.new z.L z.cs z.gen z.acc z.pn z.cn z.pc z.cc).Ok :=
 ⟨h.fit,h.nd,h.cs,(λ v hv=>nomatch hv),(λ v hv=>nomatch hv),h.two,h.lL,h.lc,Nat.zero_le _,Nat.le_refl _,Nat.le_refl _,Nat.le_refl _,Nat.le_refl _,Nat.zero_le _,h.ys,h.gen0,(λ i j _ hj=>absurd hj (Nat.not_lt_zero j)),(λ v hv=>nomatch hv)⟩
theorem vl{T:Tr}{x z z':XS}{dn:Bool}{rs:Rs}{R:Tr}{N:List aL}(h:qe T (XS.wm x z) dn rs R)(h':z'.Ok)(e:z'.L=z.L++N):qe T (XS.wm x z') dn rs R:=by
 refine⟨tj h.ok h' e,?_,h.Vv⟩
 have hw:=h.wk
 show Wk (z'.L.map aL.c) T x.got x.made x.cel x.gns R
 rw[e,List.map_append]
 exact Wk.mono hw
structure xz(m C:Nat)(z:XS)(e:EX):Prop where
 i:qe (T0 e.k m) (XS.wm e.x z) e.dn e.rs e.R
 k:7<=e.k.kind/\e.k.kind<=12
 em:e.k.mask=(m:Int)
 ht:e.k.t.root<=9223372036854775807
 ha:e.k.a=0/\e.k.b=0/\e.k.n=0
 gl:e.x.got.length<=C
theorem xz.wm{m C:Nat}{z z':XS}{e:EX}{N:List aL}(h:xz m C z e)(h':z'.Ok)(he:z'.L=z.L++N):xz m C z' e:=⟨vl h.i h' he,h.k,h.em,h.ht,h.ha,h.gl⟩
theorem K8{T R:Tr}{x:XS}{dn:Bool}{rs:Rs}(h:qe T x dn rs R):oO R=true:=by
 rcases h.Vv with⟨_,e⟩|⟨_,e⟩
 ·rw[e];rfl
 ·cases R<;>first|rfl|(simp[Tr.acc] at e)
structure Nz(m B C E:Nat)(W:Wd):Prop where
 z:W.z.Ok
 sz:Sz W.z B
 ex:∀e∈W.ex,xz m C W.z e
 t0:0<W.ts.length
 tr:(W.ts.getD 0 ⟨0,false⟩).ro=false
 tl:W.ts.length<=5
 el:W.ex.length<=E
 wr:WR (H8 m) m W.z.mm W.ts (W.ex.map EX.R)
theorem Nz.root{m B C E:Nat}{W:Wd}(h:Nz m B C E W)(hB:B<=1000000000000){t:eA}(ht:t∈W.ts):t.root<=9223372036854775807:=by
 obtain⟨σ,hi⟩:=h.wr.inv
 have h1:=(hi.ts t ht).2.1
 have h2:=h.sz.2.1
 have e:σ.cl=W.z.cs.length:=by simp only[Kw.cl,hi.mm];rfl
 omega
theorem H5{m:Nat}{k:Cl}{ts:List eA}(hk:7<=k.kind/\k.kind<=12)(hm:m<18446744073709551616)(ht:k.t∈ts)(hky:k.key∈jI)(hro:wrK k.kind->k.t.ro=false){s:Mm}:∀σ:Kw,σ.mm=s->Inv (H8 m) σ->(∀t∈ts,bU σ t)->Jq (H8 m) σ k (kD k.key m):=λ σ _ _ h =>
 ⟨h _ ht,rJ _ _,if_pos hky,hro,.inl hk⟩
section
variable{m B C E bw bm:Nat}{D:List Nat}{A:Fr}{w:World}
set_option maxHeartbeats 1000000 in
theorem jl{W:Wd}{q:Dw}{kind:Int}(steps:Nat)(hst:steps<=1048576)(hC:steps<=C)(hB:B<=100000000000)(hm:m<18446744073709551616)(hW:Nz m B C E W)(hE:E<=900)(hkd:7<=kind/\kind<=12)(hq:Kt kind W.ts q)(hA:∀f∈aV W.z.L,f∈A)(hs:SF w D (wH m bw bm W) A [] (wO W) w) :
  Calls Tryz.prog 28 #[.pointer (some ⟨bw,0,none⟩),.agg ⟨Nq (q.cl kind m)⟩,.int .i64 (steps:Int)] w λ e w'=>∃r:Wd×List aL,e=.returned (.tuple #[])/\(Nz m (B+64+128*steps) C (E+1) r.1/\r.1.z.L=W.z.L++r.2)/\SF w D (wH m bw bm r.1) [] (aV r.2) (wO r.1) w':=by
 have hwt:=hW.root (by omega) hq.mem
 have hlen:(qT W.ex).length=W.ex.length:=by simp[qT]
 have hel:=hW.el
 have htl:=hW.tl
 have:=Jy (f:=28) (H':=Cg bm W.ex) (O':=Ar W.ex) (hs:=[(bw,nK bm (m:Int) W.pt W.ts.length W.kt W.pe (qT W.ex).length W.ke),(bm,xM W.z)]) (os:=[⟨W.pt,sN W.ts,W.kt,29,2⟩,⟨W.pe,xS (qT W.ex),W.ke,73,1⟩,⟨W.z.pn,gR W.z.L,W.z.cn,77,14⟩,⟨W.z.pc,aG W.z.cs,W.z.cc,62,1⟩]) (A0:=aV W.z.L) hs (List.Perm.refl _) (List.Perm.refl _) (bQ.of λ f hf=>.inr (.inl (hA f hf)))
  (λ h=>vm (k:=q.cl kind m) (m:=m) (B:=B) steps hst hB hW.sz (.inr ⟨hkd.1,hkd.2⟩) hm rfl hwt rfl rfl rfl (λ f hf=>hf) (R5 hW.z) (by omega) (by omega) h)
 refine this.mono λ e w' ⟨⟨bx,y,kq⟩,e1,⟨hi,his,hk⟩,hw⟩=>?_
 replace his:y.i<=steps:=his
 replace hi:F4 (q.cl kind m) m (XS.new W.z.L W.z.cs W.z.gen W.z.acc W.z.pn W.z.cn W.z.pc W.z.cc) B y:=hi
 have hext:y.x.L=W.z.L++y.N:=hi.ext
 obtain⟨j,hrc⟩:=hi.rc
 have hstart:WR (H8 m) m y.x.mm W.ts (y.R::W.ex.map EX.R):=.start hW.wr (H5 hkd hm hq.mem hq.ky hq.ro) hrc (K8 hi.ex)
 have hszy:Sz y.x (B+64+128*steps):=by obtain⟨z1,z2,z3⟩:=hi.sz;exact⟨by omega,by omega,by omega⟩
 have hexs:∀e∈W.ex,xz m C y.x e:=λ e he=>(hW.ex e he).wm hi.ex.ok hext
 rw[List.append_nil] at hw
 obtain⟨i,x,N,dn,rs,R⟩:=y
 cases dn with
 | true =>
  rcases hk with⟨hd,_⟩|⟨_,he,hts⟩
  ·cases hd
  ·have hR:R=.done rs:=by rcases hi.ex.Vv with⟨_,h⟩|⟨h,_⟩;exact h;cases h
   have hL:kq.ts.length<=5/\0<kq.ts.length/\(kq.ts.getD 0 ⟨0,false⟩).ro=false/\WR (H8 m) m x.mm kq.ts (W.ex.map EX.R):=by
    rcases hts with hts|⟨h0,h5,hts⟩
    ·rw[hts];exact⟨hW.tl,hW.t0,hW.tr,by subst hR;exact hstart.drop⟩
    ·refine⟨h5,by rw[hts];simp,?_,?_⟩
     ·rw[hts,fM,List.getElem?_append_left hW.t0,<- fM];exact hW.tr
     ·rw[hts]
      subst hR
      exact(hstart.add h0).drop
   refine⟨(⟨x,kq.ts,kq.pt,kq.kt,W.ex,kq.pe,kq.ke⟩,N),e1,⟨⟨hi.ex.ok,hszy,hexs,hL.2.1,hL.2.2.1,hL.1,by show W.ex.length<=E+1;omega,hL.2.2.2⟩,hext⟩,?_⟩
   have hes:kq.es=qT W.ex:=he
   dsimp only[wH,wO]
   rw[<- hes]
   exact hw.y6
 | false =>
  rcases hk with⟨_,he,hts⟩|⟨hd,_⟩
  ·have hes:qT (W.ex++[⟨bx,q.cl kind m,x,false,rs,R⟩])=kq.es:=by rw[he];simp[qT]
   refine⟨(⟨x,kq.ts,kq.pt,kq.kt,W.ex++[⟨bx,q.cl kind m,x,false,rs,R⟩],kq.pe,kq.ke⟩,N),e1,⟨⟨hi.ex.ok,hszy,λ e he=>?_,by rw[show kq.ts=W.ts from hts];exact hW.t0,by rw[show kq.ts=W.ts from hts];exact hW.tr,by rw[show kq.ts=W.ts from hts];exact hW.tl,by simp;omega,?_⟩,hext⟩,?_⟩
   ·rcases List.mem_append.1 he with he|he
    ·exact hexs e he
    ·rw[List.mem_singleton.1 he]
     exact⟨hi.ex,hkd,rfl,hwt,⟨rfl,rfl,rfl⟩,by have:=hi.gl;show x.got.length<=C;simp only at this his;omega⟩
   ·rw[show kq.ts=W.ts from hts,List.map_append]
    exact hstart.perm (List.perm_append_comm (l₁:=[R]))
   ·dsimp only[wH,wO]
    rw[hes]
    refine hw.y6.perm ?_ ?_
    ·have e2:Cg bm (W.ex++[⟨bx,q.cl kind m,x,false,rs,R⟩])=Cg bm W.ex++[(bx,xO (q.cl kind m) bm x false rs)]:=by simp[Cg]
     rw[e2]
     exact(List.perm_append_comm (l₁:=(bw,_)::(bm,_)::Cg bm W.ex) (l₂:=[(bx,xO (q.cl kind m) bm x false rs)]))
    ·have e2:Ar (W.ex++[⟨bx,q.cl kind m,x,false,rs,R⟩])=Ar W.ex++xE4 x false:=by simp[Ar,xE4]
     rw[e2]
     exact(List.perm_append_comm (l₁:=_::_::_::_::Ar W.ex) (l₂:=xE4 x false))
  ·cases hd
abbrev Wd.go(W:Wd)(z:XS)(ex:List EX):Wd:=⟨z,W.ts,W.pt,W.kt,ex,W.pe,W.ke⟩
def StX(W:Wd)(i:Nat)(z:XS)(ex:List EX):Prop:=∃l1 e e' l2,W.ex=l1++e::l2/\l1.length=i/\ex=l1++e'::l2/\e'.b=e.b/\((e.dn=true/\e'=e)∨(e.dn=false/\∃j,j<=1/\(e'.dn=false->j=1)/\Rc j e.R W.z.mm e'.R z.mm))
theorem V8{l:List EX}{i:Nat}(hi:i<l.length):∃l1 e l2,l=l1++e::l2/\l1.length=i:=by
 refine⟨l.take i,l[i],l.drop (i+1),?_,by simp;omega⟩
 rw[<- List.drop_eq_getElem_cons hi,List.take_append_drop]
theorem zy{W:Wd}{l1 l2:List EX}{e:EX}(hl:W.ex=l1++e::l2):(wH m bw bm W).Perm (xH e.k e.b bm (XS.wm e.x W.z) e.dn e.rs++((bw,nK bm (m:Int) W.pt W.ts.length W.kt W.pe (qT W.ex).length W.ke)::Cg bm (l1++l2))):=by
 have e1:Cg bm W.ex=Cg bm l1++(e.b,xO e.k bm (XS.wm e.x W.z) e.dn e.rs)::Cg bm l2:=by rw[hl];simp only[Cg,List.map_append,List.map_cons];rfl
 have e2:Cg bm (l1++l2)=Cg bm l1++Cg bm l2:=by simp[Cg]
 dsimp only[wH]
 rw[e1,e2]
 refine(List.Perm.swap _ _ _).trans ?_
 refine(((List.perm_middle (a:=(e.b,xO e.k bm (XS.wm e.x W.z) e.dn e.rs)) (l₁:=Cg bm l1) (l₂:=Cg bm l2)).cons _).cons _).trans ?_
 refine((List.Perm.swap _ _ _).cons _).trans ?_
 exact List.Perm.swap _ _ _
theorem y3{W:Wd}{l1 l2:List EX}{e:EX}(hl:W.ex=l1++e::l2):(wO W).Perm (xW (XS.wm e.x W.z)++(⟨W.pt,sN W.ts,W.kt,29,2⟩::⟨W.pe,xS (qT W.ex),W.ke,73,1⟩::Ar (l1++l2))):=by
 have e1:Ar W.ex=Ar l1++(Ar [e]++Ar l2):=by rw[hl];simp[Ar]
 have e2:Ar (l1++l2)=Ar l1++Ar l2:=by simp[Ar]
 dsimp only[wO]
 rw[e1,e2]
 have hx:xW (XS.wm e.x W.z)=Ar [e]++[⟨W.z.pn,gR W.z.L,W.z.cn,77,14⟩,⟨W.z.pc,aG W.z.cs,W.z.cc,62,1⟩]:=rfl
 rw[hx]
 generalize Ar [e]=oe
 generalize Ar l1=o1
 generalize Ar l2=o2
 have p1:(o1++(oe++o2)).Perm (oe++(o1++o2)):=by
  rw[<- List.append_assoc,<- List.append_assoc]
  exact List.perm_append_comm.append_right _
 refine((((p1.cons _).cons _).cons _).cons _).trans ?_
 have p2:∀(a b c d:Ow) (l r:List Ow),(a::b::c::d::(l++r)).Perm (l++[c,d]++(a::b::r)):=λ a b c d l r=>by
  have h1:([a,b]++[c,d]++l++r).Perm (l++[c,d]++[a,b]++r):=by
   refine List.Perm.append_right r ?_
   refine List.perm_append_comm.trans ?_
   rw[List.append_assoc]
   exact List.Perm.append_left l List.perm_append_comm
  simpa using h1
 exact p2 _ _ _ _ _ _
theorem aa{W:Wd}{i:Nat}(hi:i<W.ex.length)(hC:C<=1000000000)(hB:B<=100000000000)(hm:m<18446744073709551616)(hW:Nz m B C E W)(hA:∀f∈aV W.z.L,f∈A)(hs:SF w D (wH m bw bm W) A [] (wO W) w) :
  Calls Tryz.prog 29 #[.pointer (some ⟨(qT W.ex).getD i 0,0,none⟩)] w λ e w'=>∃q:XS×List EX×List aL,e=.returned (.tuple #[])/\(Nz m (B+128) (C+1) E (W.go q.1 q.2.1)/\q.1.L=W.z.L++q.2.2/\StX W i q.1 q.2.1)/\SF w D (wH m bw bm (W.go q.1 q.2.1)) [] (aV q.2.2) (wO (W.go q.1 q.2.1)) w':=by
 obtain⟨l1,e,l2,hl,hi1⟩:=V8 hi
 have hb:(qT W.ex).getD i 0=e.b:=by rw[hl,<- hi1];simp[qT]
 rw[hb]
 have he:=hW.ex e (by rw[hl];simp)
 have hsz:=hW.sz
 obtain⟨s1,s2,s3⟩:=hsz
 have hgl:=he.gl
 have pH:=zy (m:=m) (bw:=bw) (bm:=bm) hl
 have pO:=y3 hl
 have key:=Jy (f:=29) (A0:=aV W.z.L) hs pH pO (bQ.of λ f hf=>.inr (.inl (hA f hf)))
  (λ h=>Pt (x:=XS.wm e.x W.z) (N:=e.x.got.length+1) (n:=1073741824) (m:=m) (nM e.k m (by omega)) (by omega) rfl ⟨by show W.z.L.length<=_;omega,by show W.z.cs.length<=_;omega,by show W.z.gen<=_;omega⟩ he.i (.inr he.k) (Nat.le_refl _) hm he.em he.ht (by rw[he.ha.1];exact bF _) (by rw[he.ha.2.1];exact bF _) (by rw[he.ha.2.2];exact bF _) (λ f hf=>hf) h)
 refine key.mono λ en w' ⟨⟨x',N,dn',rs'⟩,e1,hq,hw⟩=>?_
 rw[List.append_nil] at hw
 rcases hq with⟨hd,hq⟩|⟨hd,hq⟩
 ·have h1:x'=XS.wm e.x W.z:=congrArg (λ q:XS×List aL×Bool×Rs=>q.1) hq
  have h2:N=[]:=congrArg (λ q:XS×List aL×Bool×Rs=>q.2.1) hq
  have h3:dn'=true:=congrArg (λ q:XS×List aL×Bool×Rs=>q.2.2.1) hq
  have h4:rs'=e.rs:=congrArg (λ q:XS×List aL×Bool×Rs=>q.2.2.2) hq
  subst h1 h2 h3 h4
  refine⟨(W.z,W.ex,[]),e1,⟨⟨hW.z,⟨by show W.z.L.length<=_;omega,by show W.z.cs.length<=_;omega,by show W.z.gen<=_;omega⟩,λ x hx=>?_,hW.t0,hW.tr,hW.tl,hW.el,hW.wr⟩,by simp,l1,e,e,l2,hl,hi1,hl,rfl,.inl ⟨hd,rfl⟩⟩,?_⟩
  ·have:=hW.ex x hx
   exact⟨this.i,this.k,this.em,this.ht,this.ha,by have:=this.gl;omega⟩
  ·have hw2:=hw.y6.perm (H':=wH m bw bm W) (O':=wO W) (by rw[hd] at pH;exact pH) pO
   exact hw2
 ·obtain⟨R',j,h1,h2,h3,h4,h5,h6⟩:=vP.w5 hq
  have hx':XS.wm x' x'=x':=rfl
  have hext:x'.L=W.z.L++N:=h5
  have hsz':Sz x' (B+128):=Aw he.i hd (nM e.k m (n:=e.x.got.length+1) (by omega)) (Nat.le_refl _) h4 h1 hW.sz
  have hwr:WR (H8 m) m x'.mm W.ts ((l1++⟨e.b,e.k,x',dn',rs',R'⟩::l2).map EX.R):=by
   have w1:=hW.wr
   rw[hl,List.map_append,List.map_cons] at w1
   have w2:=(w1.perm List.perm_middle).step h4 (K8 h3)
   rw[List.map_append,List.map_cons]
   exact w2.perm List.perm_middle.symm
  have hgl':=vP.gl hq
  have hexB:qT (l1++⟨e.b,e.k,x',dn',rs',R'⟩::l2)=qT W.ex:=by rw[hl];simp[qT]
  refine⟨(x',l1++⟨e.b,e.k,x',dn',rs',R'⟩::l2,N),e1,⟨⟨h3.ok,hsz',λ y hy=>?_,hW.t0,hW.tr,hW.tl,by have:=hW.el;rw[hl] at this;simpa using this,hwr⟩,hext,l1,e,⟨e.b,e.k,x',dn',rs',R'⟩,l2,hl,hi1,rfl,rfl,.inr ⟨hd,j,h1,h2,h4⟩⟩,?_⟩
  ·rcases List.mem_append.1 hy with hy|hy
   ·have:=(hW.ex y (by rw[hl];exact List.mem_append_left _ hy)).wm h3.ok hext
    exact⟨this.i,this.k,this.em,this.ht,this.ha,by have:=this.gl;omega⟩
   ·rcases List.mem_cons.1 hy with rfl|hy
    ·exact⟨h3,he.k,he.em,he.ht,he.ha,by show x'.got.length<=C+1;have:x'.got.length<=e.x.got.length+1:=hgl';omega⟩
    ·have:=(hW.ex y (by rw[hl];exact List.mem_append_right _ (List.mem_cons_of_mem _ hy))).wm h3.ok hext
     exact⟨this.i,this.k,this.em,this.ht,this.ha,by have:=this.gl;omega⟩
  ·rw[<- hexB] at hw
   exact hw.y6.perm (zy (W:=W.go x' (l1++⟨e.b,e.k,x',dn',rs',R'⟩::l2)) rfl) (y3 (W:=W.go x' (l1++⟨e.b,e.k,x',dn',rs',R'⟩::l2)) rfl)
theorem cg{W:Wd}{i:Nat}(hi:i<W.ex.length)(hC:C<=1000000000)(hB:B<=100000000000)(hm:m<18446744073709551616)(hW:Nz m B C E W)(hA:∀f∈aV W.z.L,f∈A)(hs:SF w D (wH m bw bm W) A [] (wO W) w) :
  Calls Tryz.prog 29 #[.pointer (some ⟨(qT W.ex).getD i 0,0,none⟩)] w λ e w'=>∃r:Wd×List aL,e=.returned (.tuple #[])/\(Nz m (B+128) (C+1) E r.1/\r.1.ts=W.ts/\r.1.z.L=W.z.L++r.2)/\SF w D (wH m bw bm r.1) [] (aV r.2) (wO r.1) w' :=
 (aa hi hC hB hm hW hA hs).mono λ _ _ ⟨q,e,h,hw⟩=>⟨(W.go q.1 q.2.1,q.2.2),e,⟨h.1,rfl,h.2.1⟩,hw⟩
end
end Go.Proofs.YtadnboagdhcedaaGreatDoor
