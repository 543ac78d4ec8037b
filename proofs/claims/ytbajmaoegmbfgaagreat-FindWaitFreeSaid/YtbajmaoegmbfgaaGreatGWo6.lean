/- Worlds: the state of a world; an operation is run in it, an execution makes a step. -/
import Derived.Test.YtbajmaoegmbfgaaGreatGWo1
import Derived.Test.YtbajmaoegmbfgaaGreatGWr1
import Derived.Test.YtbajmaoegmbfgaaGreatGTkd

set_option linter.unusedSimpArgs false
set_option linter.unusedVariables false
namespace Go.Ct
section
open Go Go.RowKit
section
variable{α:Type}
theorem lU.pre:∀(es r:List α),lU (es++r) (List.replicate es.length 0) es r
 | [],r=>.nil
 | a::es,r=>.cons .head (lU.pre es r)
end
theorem tN{P:Program}{f:FuncId}{vs:Array Value}{X:Type}{V:X->Value}{φ:X->Prop}{w0 w:World}{M:List Nat}{H hs H':List (Nat×Obj)}{A A0 F:Fr}{O os O':List Ow}{hs':X->List (Nat×Obj)}{os':X->List Ow}{Fc:X->Fr}
  (h:SF w0 M H A F O w) (pH:H.Perm (hs++H')) (pO:O.Perm (os++O')) (hA:aX A F O' A0)
  (hc:SF w (Ks hs os) hs A0 [] os w->Calls P f vs w λ e w'=>∃x,e=.returned (V x)/\φ x/\SF w (Ks hs os) (hs' x) [] (Fc x) (os' x) w') :
  Calls P f vs w λ e w'=>∃x,e=.returned (V x)/\φ x/\SF w0 M (hs' x++H') A (Fc x++F) (os' x++O') w':=by
 have h1:=h.perm pH.symm pO.symm
 refine(hc (h1.pQ (lU.pre hs H') (lU.pre os O') hA)).mono λ e w' ⟨x,e1,hx,hw⟩=>⟨x,e1,hx,?_⟩
 have kperm:∀(a c:List (Nat×Obj)) (b d:List Ow),(Ks (a++c) (b++d)).Perm (Ks a b++Ks c d):=λ a c b d=>by
  unfold Ks
  rw[List.map_append,List.flatMap_append]
  simp only[List.append_assoc]
  refine List.Perm.append_left _ ?_
  rw[<- List.append_assoc,<- List.append_assoc]
  exact List.Perm.append_right _ List.perm_append_comm
 have nd0:=(kperm hs H' os O').nodup_iff.1 h1.dis
 have disj:∀b∈Ks hs os,b∉Ks H' O':=λ b hb hm=>(List.nodup_append.1 nd0).2.2 b hb b hm rfl
 exact h1.bz (D:=Ks hs os) (Hm:=[]) (Hc:=hs' x) (H1:=H') (Fc:=Fc x) (Om:=[]) (Oc:=os' x) (O1:=O') hw (λ b hb=>(kperm hs H' os O').mem_iff.2 (List.mem_append_left _ hb))
  (λ p hpm=>.inr ⟨List.mem_append_right _ hpm,λ hm=>disj _ hm (eE.2 (.inl ⟨p,hpm,rfl⟩))⟩)
  (λ o ho=>.inr ⟨List.mem_append_right _ ho,λ b hb hm=>disj _ hm (eE.2 (.inr ⟨o,ho,hb⟩))⟩)
  (List.nodup_append.1 nd0).2.1
end
end Go.Ct
namespace Go.Proofs.YtbajmaoegmbfgaaGreat
section
open Go Go.RowKit Go.Ct
structure EX where
 b:Nat
 k:Cl
 x:XS
 dn:Bool
 rs:Rs
 R:Tr
structure Wd where
 z:XS
 ts:List fL
 pt:Option Addr
 kt:Nat
 ex:List EX
 pe:Option Addr
 ke:Nat
def oF(bm:Nat)(l:List EX):List (Nat×Obj):=l.map λ e=>(e.b,xO e.k bm e.x e.dn e.rs)
def mQ(l:List EX):List Ow:=l.flatMap λ e=>[⟨e.x.pg,aG e.x.got,e.x.kg,37,1⟩,⟨e.x.pm,aG e.x.made,e.x.km,37,1⟩,⟨e.x.pl,aG e.x.cel,e.x.kl,27,1⟩,⟨e.x.pe,aG e.x.gns,e.x.ke,3,1⟩]
def rF(l:List EX):List Nat:=l.map EX.b
abbrev wH(m bw bm:Nat)(W:Wd):List (Nat×Obj):=(bw,mE bm (m:Int) W.pt W.ts.length W.kt W.pe (rF W.ex).length W.ke)::(bm,xM W.z)::oF bm W.ex
abbrev wO(W:Wd):List Ow:=⟨W.pt,rV W.ts,W.kt,29,2⟩::⟨W.pe,Bk (rF W.ex),W.ke,74,1⟩::⟨W.z.pn,gN W.z.L,W.z.cn,47,14⟩::⟨W.z.pc,aG W.z.cs,W.z.cc,37,1⟩::mQ W.ex
def XS.wm(x z:XS):XS:={x with L:=z.L,cs:=z.cs,gen:=z.gen,acc:=z.acc,pn:=z.pn,cn:=z.cn,pc:=z.pc,cc:=z.cc}
theorem xi{x z z':XS}{N:List aZ}(h:(XS.wm x z).Ok)(h':z'.Ok)(e:z'.L=z.L++N):(XS.wm x z').Ok:=by
 have hl:z.L.length<=z'.L.length:=by rw[e,List.length_append];omega
 exact⟨h'.fit,h'.nd,h'.cs,λ v hv=>by have:=h.got v hv;show v<=z'.L.length;have h2:v<=z.L.length:=this;omega,λ v hv=>by have:=h.made v hv;show v<=z'.L.length;have h2:v<=z.L.length:=this;omega,h'.two,h'.lL,h'.lc,h.lg,h.la,h.lm,h.lk,h.le,h.fr,h'.ys,h'.gen0,h.ms,h.m1⟩
theorem K9{z:XS}(h:z.Ok):(XS.new z.L z.cs z.gen z.acc z.pn z.cn z.pc z.cc).Ok :=
 ⟨h.fit,h.nd,h.cs,(λ v hv=>nomatch hv),(λ v hv=>nomatch hv),h.two,h.lL,h.lc,Nat.zero_le _,Nat.le_refl _,Nat.le_refl _,Nat.le_refl _,Nat.le_refl _,Nat.zero_le _,h.ys,h.gen0,(λ i j _ hj=>absurd hj (Nat.not_lt_zero j)),(λ v hv=>nomatch hv)⟩
theorem lx{T:Tr}{x z z':XS}{dn:Bool}{rs:Rs}{R:Tr}{N:List aZ}(h:ny T (XS.wm x z) dn rs R)(h':z'.Ok)(e:z'.L=z.L++N):ny T (XS.wm x z') dn rs R:=by
 refine⟨xi h.ok h' e,?_,h.M2⟩
 have hw:=h.wk
 show Wk (z'.L.map aZ.c) T x.got x.made x.cel x.gns R
 rw[e,List.map_append]
 exact Wk.mono hw
structure EOk(m C:Nat)(z:XS)(e:EX):Prop where
 i:ny (T0 e.k m) (XS.wm e.x z) e.dn e.rs e.R
 k:7<=e.k.kind/\e.k.kind<=12
 em:e.k.mask=(m:Int)
 ht:e.k.t.root<=9223372036854775807
 ha:e.k.a=0/\e.k.b=0/\e.k.n=0
 gl:e.x.got.length<=C
theorem EOk.wm{m C:Nat}{z z':XS}{e:EX}{N:List aZ}(h:EOk m C z e)(h':z'.Ok)(he:z'.L=z.L++N):EOk m C z' e:=⟨lx h.i h' he,h.k,h.em,h.ht,h.ha,h.gl⟩
theorem mA{T R:Tr}{x:XS}{dn:Bool}{rs:Rs}(h:ny T x dn rs R):dG R=true:=by
 rcases h.M2 with⟨_,e⟩|⟨_,e⟩
 ·rw[e];rfl
 ·cases R<;>first|rfl|(simp[Tr.acc] at e)
structure Q2(m B C E:Nat)(W:Wd):Prop where
 z:W.z.Ok
 sz:Sz W.z B
 ex:∀e∈W.ex,EOk m C W.z e
 t0:0<W.ts.length
 tr:(W.ts.getD 0 ⟨0,false⟩).ro=false
 tl:W.ts.length<=5
 el:W.ex.length<=E
 wr:WR (H8 m) m W.z.mm W.ts (W.ex.map EX.R)
theorem Q2.root{m B C E:Nat}{W:Wd}(h:Q2 m B C E W)(hB:B<=1000000000000){t:fL}(ht:t∈W.ts):t.root<=9223372036854775807:=by
 obtain⟨σ,hi⟩:=h.wr.inv
 have h1:=(hi.ts t ht).2.1
 have h2:=h.sz.2.1
 have e:σ.cl=W.z.cs.length:=by simp only[Kw.cl,hi.mm];rfl
 omega
theorem Kf{m:Nat}{k:Cl}{ts:List fL}(hk:7<=k.kind/\k.kind<=12)(hm:m<18446744073709551616)(ht:k.t∈ts)(hky:k.key∈lO)(hro:wrK k.kind->k.t.ro=false){s:Mm}:∀σ:Kw,σ.mm=s->Inv (H8 m) σ->(∀t∈ts,cQ σ t)->Rm (H8 m) σ k (jV k.key m):=λ σ _ _ h =>
 ⟨h _ ht,oE _ _,if_pos hky,λ e=>hro (by unfold wrK;rcases e with e|e<;>simp[e]),.inl hk⟩
section
variable{m B C E bw bm:Nat}{D:List Nat}{A:Fr}{w:World}
set_option maxHeartbeats 1000000 in
theorem pf{W:Wd}{q:Br}{kind:Int}(steps:Nat)(hst:steps<=1048576)(hC:steps<=C)(hB:B<=100000000000)(hm:m<18446744073709551616)(hW:Q2 m B C E W)(hE:E<=900)(hkd:7<=kind/\kind<=12)(hq:Od kind W.ts q)(hA:∀f∈aM W.z.L,f∈A)(hs:SF w D (wH m bw bm W) A [] (wO W) w) :
  Calls Tryz.prog 67 #[.pointer (some ⟨bw,0,none⟩),.agg ⟨Q3 (q.cl kind m)⟩,.int .i64 (steps:Int)] w λ e w'=>∃r:Wd×List aZ,e=.returned (.tuple #[])/\(Q2 m (B+64+128*steps) C (E+1) r.1/\r.1.z.L=W.z.L++r.2)/\SF w D (wH m bw bm r.1) [] (aM r.2) (wO r.1) w':=by
 have hwt:=hW.root (by omega) hq.mem
 have hlen:(rF W.ex).length=W.ex.length:=by simp[rF]
 have hel:=hW.el
 have htl:=hW.tl
 have:=tN (f:=67) (H':=oF bm W.ex) (O':=mQ W.ex) (hs:=[(bw,mE bm (m:Int) W.pt W.ts.length W.kt W.pe (rF W.ex).length W.ke),(bm,xM W.z)]) (os:=[⟨W.pt,rV W.ts,W.kt,29,2⟩,⟨W.pe,Bk (rF W.ex),W.ke,74,1⟩,⟨W.z.pn,gN W.z.L,W.z.cn,47,14⟩,⟨W.z.pc,aG W.z.cs,W.z.cc,37,1⟩]) (A0:=aM W.z.L) hs (List.Perm.refl _) (List.Perm.refl _) (aX.of λ f hf=>.inr (.inl (hA f hf)))
  (λ h=>w8 (k:=q.cl kind m) (m:=m) (B:=B) steps hst hB hW.sz (.inr ⟨hkd.1,hkd.2⟩) hm rfl hwt rfl rfl rfl (λ f hf=>hf) (K9 hW.z) (by omega) (by omega) h)
 refine this.mono λ e w' ⟨⟨bx,y,kq⟩,e1,⟨hi,his,hk⟩,hw⟩=>?_
 replace his:y.i<=steps:=his
 replace hi:I2 (q.cl kind m) m (XS.new W.z.L W.z.cs W.z.gen W.z.acc W.z.pn W.z.cn W.z.pc W.z.cc) B y:=hi
 have hext:y.x.L=W.z.L++y.N:=hi.ext
 obtain⟨j,hrc⟩:=hi.rc
 have hstart:WR (H8 m) m y.x.mm W.ts (y.R::W.ex.map EX.R):=.start hW.wr (Kf hkd hm hq.mem hq.ky hq.ro) hrc (mA hi.ex)
 have hszy:Sz y.x (B+64+128*steps):=by obtain⟨z1,z2,z3⟩:=hi.sz;exact⟨by omega,by omega,by omega⟩
 have hexs:∀e∈W.ex,EOk m C y.x e:=λ e he=>(hW.ex e he).wm hi.ex.ok hext
 rw[List.append_nil] at hw
 obtain⟨i,x,N,dn,rs,R⟩:=y
 cases dn with
 | true =>
  rcases hk with⟨hd,_⟩|⟨_,he,hts⟩
  ·cases hd
  ·have hR:R=.done rs:=by rcases hi.ex.M2 with⟨_,h⟩|⟨h,_⟩;exact h;cases h
   have hL:kq.ts.length<=5/\0<kq.ts.length/\(kq.ts.getD 0 ⟨0,false⟩).ro=false/\WR (H8 m) m x.mm kq.ts (W.ex.map EX.R):=by
    rcases hts with hts|⟨h0,h5,hts⟩
    ·rw[hts];exact⟨hW.tl,hW.t0,hW.tr,hstart.drop⟩
    ·refine⟨h5,by rw[hts];simp,?_,?_⟩
     ·rw[hts,kQ,List.getElem?_append_left hW.t0,<- kQ];exact hW.tr
     ·rw[hts]
      subst hR
      exact(hstart.add h0).drop
   refine⟨(⟨x,kq.ts,kq.pt,kq.kt,W.ex,kq.pe,kq.ke⟩,N),e1,⟨⟨hi.ex.ok,hszy,hexs,hL.2.1,hL.2.2.1,hL.1,by show W.ex.length<=E+1;omega,hL.2.2.2⟩,hext⟩,?_⟩
   have hes:kq.es=rF W.ex:=he
   dsimp only[wH,wO]
   rw[<- hes]
   exact hw.r7
 | false =>
  rcases hk with⟨_,he,hts⟩|⟨hd,_⟩
  ·have hes:rF (W.ex++[⟨bx,q.cl kind m,x,false,rs,R⟩])=kq.es:=by rw[he];simp[rF]
   refine⟨(⟨x,kq.ts,kq.pt,kq.kt,W.ex++[⟨bx,q.cl kind m,x,false,rs,R⟩],kq.pe,kq.ke⟩,N),e1,⟨⟨hi.ex.ok,hszy,λ e he=>?_,by rw[show kq.ts=W.ts from hts];exact hW.t0,by rw[show kq.ts=W.ts from hts];exact hW.tr,by rw[show kq.ts=W.ts from hts];exact hW.tl,by simp;omega,?_⟩,hext⟩,?_⟩
   ·rcases List.mem_append.1 he with he|he
    ·exact hexs e he
    ·rw[List.mem_singleton.1 he]
     exact⟨hi.ex,hkd,rfl,hwt,⟨rfl,rfl,rfl⟩,by have:=hi.gl;show x.got.length<=C;simp only at this his;omega⟩
   ·rw[show kq.ts=W.ts from hts,List.map_append]
    exact hstart.perm (List.perm_append_comm (l₁:=[R]))
   ·dsimp only[wH,wO]
    rw[hes]
    refine hw.r7.perm ?_ ?_
    ·have e2:oF bm (W.ex++[⟨bx,q.cl kind m,x,false,rs,R⟩])=oF bm W.ex++[(bx,xO (q.cl kind m) bm x false rs)]:=by simp[oF]
     rw[e2]
     exact(List.perm_append_comm (l₁:=(bw,_)::(bm,_)::oF bm W.ex) (l₂:=[(bx,xO (q.cl kind m) bm x false rs)]))
    ·have e2:mQ (W.ex++[⟨bx,q.cl kind m,x,false,rs,R⟩])=mQ W.ex++xE4 x false:=by simp[mQ,xE4]
     rw[e2]
     exact(List.perm_append_comm (l₁:=_::_::_::_::mQ W.ex) (l₂:=xE4 x false))
  ·cases hd
theorem ln{W:Wd}{i:Nat}(hi:i<W.ex.length)(hC:C<=1000000000)(hB:B<=100000000000)(hm:m<18446744073709551616)(hW:Q2 m B C E W)(hA:∀f∈aM W.z.L,f∈A)(hs:SF w D (wH m bw bm W) A [] (wO W) w) :
  Calls Tryz.prog 68 #[.pointer (some ⟨(rF W.ex).getD i 0,0,none⟩)] w λ e w'=>∃r:Wd×List aZ,e=.returned (.tuple #[])/\(Q2 m (B+128) (C+1) E r.1/\r.1.ts=W.ts/\r.1.z.L=W.z.L++r.2)/\SF w D (wH m bw bm r.1) [] (aM r.2) (wO r.1) w':=by
 obtain⟨l1,e,l2,hl⟩:∃l1 e l2,W.ex=l1++e::l2/\l1.length=i:=by
  refine⟨W.ex.take i,W.ex[i],W.ex.drop (i+1),?_,by simp;omega⟩
  rw[<- List.drop_eq_getElem_cons hi,List.take_append_drop]
 obtain⟨hl,hi1⟩:=hl
 have hb:(rF W.ex).getD i 0=e.b:=by rw[hl,<- hi1];simp[rF]
 rw[hb]
 have he:=hW.ex e (by rw[hl];simp)
 have hsz:=hW.sz
 obtain⟨s1,s2,s3⟩:=hsz
 have hgl:=he.gl
 have pH:(wH m bw bm W).Perm (xH e.k e.b bm (XS.wm e.x W.z) e.dn e.rs++((bw,mE bm (m:Int) W.pt W.ts.length W.kt W.pe (rF W.ex).length W.ke)::oF bm (l1++l2))):=by
  have e1:oF bm W.ex=oF bm l1++(e.b,xO e.k bm (XS.wm e.x W.z) e.dn e.rs)::oF bm l2:=by rw[hl];simp only[oF,List.map_append,List.map_cons];rfl
  have e2:oF bm (l1++l2)=oF bm l1++oF bm l2:=by simp[oF]
  dsimp only[wH]
  rw[e1,e2]
  refine(List.Perm.swap _ _ _).trans ?_
  refine(((List.perm_middle (a:=(e.b,xO e.k bm (XS.wm e.x W.z) e.dn e.rs)) (l₁:=oF bm l1) (l₂:=oF bm l2)).cons _).cons _).trans ?_
  refine((List.Perm.swap _ _ _).cons _).trans ?_
  exact List.Perm.swap _ _ _
 have pO:(wO W).Perm (xW (XS.wm e.x W.z)++(⟨W.pt,rV W.ts,W.kt,29,2⟩::⟨W.pe,Bk (rF W.ex),W.ke,74,1⟩::mQ (l1++l2))):=by
  have e1:mQ W.ex=mQ l1++(mQ [e]++mQ l2):=by rw[hl];simp[mQ]
  have e2:mQ (l1++l2)=mQ l1++mQ l2:=by simp[mQ]
  dsimp only[wO]
  rw[e1,e2]
  have hx:xW (XS.wm e.x W.z)=mQ [e]++[⟨W.z.pn,gN W.z.L,W.z.cn,47,14⟩,⟨W.z.pc,aG W.z.cs,W.z.cc,37,1⟩]:=rfl
  rw[hx]
  generalize mQ [e]=oe
  generalize mQ l1=o1
  generalize mQ l2=o2
  have p1:(o1++(oe++o2)).Perm (oe++(o1++o2)):=by
   rw[<- List.append_assoc,<- List.append_assoc]
   exact List.perm_append_comm.append_right _
  refine((((p1.cons _).cons _).cons _).cons _).trans ?_
  have p2:∀(a b c d:Ow) (l r:List Ow),(a::b::c::d::(l++r)).Perm (l++[c,d]++(a::b::r)):=λ a b c d l r=>by
   have h1:([a,b]++[c,d]++l++r).Perm (l++[c,d]++[a,b]++r):=by
    refine List.Perm.append_right r ?_
    refine List.perm_append_comm.trans ?_
    rw[List.append_assoc]
    exact List.Perm.append_left l List.perm_append_comm
   simpa using h1
  exact p2 _ _ _ _ _ _
 have key:=tN (f:=68) (A0:=aM W.z.L) hs pH pO (aX.of λ f hf=>.inr (.inl (hA f hf)))
  (λ h=>Mv (x:=XS.wm e.x W.z) (N:=e.x.got.length+1) (n:=1073741824) (m:=m) (jS e.k m (by omega)) (by omega) rfl ⟨by show W.z.L.length<=_;omega,by show W.z.cs.length<=_;omega,by show W.z.gen<=_;omega⟩ he.i (.inr he.k) (Nat.le_refl _) hm he.em he.ht (by rw[he.ha.1];exact bH _) (by rw[he.ha.2.1];exact bH _) (by rw[he.ha.2.2];exact bH _) (λ f hf=>hf) h)
 refine key.mono λ en w' ⟨⟨x',N,dn',rs'⟩,e1,hq,hw⟩=>?_
 rw[List.append_nil] at hw
 rcases hq with⟨hd,hq⟩|⟨hd,hq⟩
 ·have h1:x'=XS.wm e.x W.z:=congrArg (λ q:XS×List aZ×Bool×Rs=>q.1) hq
  have h2:N=[]:=congrArg (λ q:XS×List aZ×Bool×Rs=>q.2.1) hq
  have h3:dn'=true:=congrArg (λ q:XS×List aZ×Bool×Rs=>q.2.2.1) hq
  have h4:rs'=e.rs:=congrArg (λ q:XS×List aZ×Bool×Rs=>q.2.2.2) hq
  subst h1 h2 h3 h4
  refine⟨(W,[]),e1,⟨⟨hW.z,⟨by show W.z.L.length<=_;omega,by show W.z.cs.length<=_;omega,by show W.z.gen<=_;omega⟩,λ x hx=>?_,hW.t0,hW.tr,hW.tl,hW.el,hW.wr⟩,rfl,by simp⟩,?_⟩
  ·have:=hW.ex x hx
   exact⟨this.i,this.k,this.em,this.ht,this.ha,by have:=this.gl;omega⟩
  ·have hw2:=hw.r7.perm (H':=wH m bw bm W) (O':=wO W) (by rw[hd] at pH;exact pH) pO
   exact hw2
 ·obtain⟨R',j,h1,h2,h3,h4,h5,h6⟩:=qB.exI hq
  have hx':XS.wm x' x'=x':=rfl
  have hext:x'.L=W.z.L++N:=h5
  have hsz':Sz x' (B+128):=wV he.i hd (jS e.k m (n:=e.x.got.length+1) (by omega)) (Nat.le_refl _) h4 h1 hW.sz
  have hwr:WR (H8 m) m x'.mm W.ts ((l1++⟨e.b,e.k,x',dn',rs',R'⟩::l2).map EX.R):=by
   have w1:=hW.wr
   rw[hl,List.map_append,List.map_cons] at w1
   have w2:=(w1.perm List.perm_middle).step h4 (mA h3)
   rw[List.map_append,List.map_cons]
   exact w2.perm List.perm_middle.symm
  have hgl':=qB.gl hq
  have hexB:rF (l1++⟨e.b,e.k,x',dn',rs',R'⟩::l2)=rF W.ex:=by rw[hl];simp[rF]
  refine⟨({W with z:=x',ex:=l1++⟨e.b,e.k,x',dn',rs',R'⟩::l2},N),e1,⟨⟨h3.ok,hsz',λ y hy=>?_,hW.t0,hW.tr,hW.tl,by have:=hW.el;rw[hl] at this;simpa using this,hwr⟩,rfl,hext⟩,?_⟩
  ·rcases List.mem_append.1 hy with hy|hy
   ·have:=(hW.ex y (by rw[hl];exact List.mem_append_left _ hy)).wm h3.ok hext
    exact⟨this.i,this.k,this.em,this.ht,this.ha,by have:=this.gl;omega⟩
   ·rcases List.mem_cons.1 hy with rfl|hy
    ·exact⟨h3,he.k,he.em,he.ht,he.ha,by show x'.got.length<=C+1;have:x'.got.length<=e.x.got.length+1:=hgl';omega⟩
    ·have:=(hW.ex y (by rw[hl];exact List.mem_append_right _ (List.mem_cons_of_mem _ hy))).wm h3.ok hext
     exact⟨this.i,this.k,this.em,this.ht,this.ha,by have:=this.gl;omega⟩
  ·refine hw.r7.perm ?_ ?_
   ·have e1:oF bm (l1++⟨e.b,e.k,x',dn',rs',R'⟩::l2)=oF bm l1++(e.b,xO e.k bm x' dn' rs')::oF bm l2:=by simp only[oF,List.map_append,List.map_cons]
    have e2:oF bm (l1++l2)=oF bm l1++oF bm l2:=by simp[oF]
    dsimp only[wH]
    rw[hexB,e1,e2]
    refine(List.Perm.swap _ _ _).trans ?_
    refine(((List.perm_middle (a:=(e.b,xO e.k bm x' dn' rs')) (l₁:=oF bm l1) (l₂:=oF bm l2)).cons _).cons _).trans ?_
    refine((List.Perm.swap _ _ _).cons _).trans ?_
    exact List.Perm.swap _ _ _
   ·have e1:mQ (l1++⟨e.b,e.k,x',dn',rs',R'⟩::l2)=mQ l1++(mQ [⟨e.b,e.k,x',dn',rs',R'⟩]++mQ l2):=by simp[mQ]
    have e2:mQ (l1++l2)=mQ l1++mQ l2:=by simp[mQ]
    dsimp only[wO]
    rw[hexB,e1,e2]
    have hx:xW x'=mQ [⟨e.b,e.k,x',dn',rs',R'⟩]++[⟨x'.pn,gN x'.L,x'.cn,47,14⟩,⟨x'.pc,aG x'.cs,x'.cc,37,1⟩]:=rfl
    rw[hx]
    generalize mQ [⟨e.b,e.k,x',dn',rs',R'⟩]=oe
    generalize mQ l1=o1
    generalize mQ l2=o2
    have p1:(o1++(oe++o2)).Perm (oe++(o1++o2)):=by
     rw[<- List.append_assoc,<- List.append_assoc]
     exact List.perm_append_comm.append_right _
    refine((((p1.cons _).cons _).cons _).cons _).trans ?_
    have p2:∀(a b c d:Ow) (l r:List Ow),(a::b::c::d::(l++r)).Perm (l++[c,d]++(a::b::r)):=λ a b c d l r=>by
     have h1:([a,b]++[c,d]++l++r).Perm (l++[c,d]++[a,b]++r):=by
      refine List.Perm.append_right r ?_
      refine List.perm_append_comm.trans ?_
      rw[List.append_assoc]
      exact List.Perm.append_left l List.perm_append_comm
     simpa using h1
    exact p2 _ _ _ _ _ _
end
end

/- Tasks of the program side by side with executions of the reference: the state; one of the two makes a step. -/
end Go.Proofs.YtbajmaoegmbfgaaGreat
namespace Go.Ct
section
open Go Go.RowKit
section
variable{α:Type}
theorem xq(x y t:α)(t1 t2 e:List α):(x::y::((t1++t::t2)++e)).Perm ([t,x]++(y::((t1++t2)++e))):=by
 have h1:((t1++t::t2)++e).Perm (t::((t1++t2)++e)):=(List.perm_middle (a:=t) (l₁:=t1) (l₂:=t2)).append_right e
 refine((h1.cons y).cons x).trans ?_
 exact((List.Perm.swap t y _).cons x).trans (List.Perm.swap t x _)
theorem aAf(x y e:α)(t e1 e2:List α):(x::y::(t++(e1++e::e2))).Perm ([e,y]++(x::(t++(e1++e2)))):=by
 have h1:(t++(e1++e::e2)).Perm (e::(t++(e1++e2))):=((List.perm_middle (a:=e) (l₁:=e1) (l₂:=e2)).append_left t).trans List.perm_middle
 refine((h1.cons y).cons x).trans ?_
 refine((List.Perm.swap e y _).cons x).trans ?_
 refine(List.Perm.swap e x _).trans ?_
 exact(List.Perm.swap y x _).cons e
theorem aAa(a b c d:α)(m1 m m2:List α):(a::b::c::d::(m1++(m++m2))).Perm ((m++[c,d])++(a::b::(m1++m2))):=by
 have h1:(m1++(m++m2)).Perm (m++(m1++m2)):=by
  rw[<- List.append_assoc,<- List.append_assoc]
  exact List.perm_append_comm.append_right m2
 refine((((h1.cons d).cons c).cons b).cons a).trans ?_
 have h2:([a,b]++[c,d]++m++(m1++m2)).Perm (m++[c,d]++[a,b]++(m1++m2)):=by
  refine List.Perm.append_right _ ?_
  refine List.perm_append_comm.trans ?_
  rw[List.append_assoc]
  exact List.Perm.append_left m List.perm_append_comm
 simpa using h2
end
inductive M1:Nat->Mm×List (Tr×Nat)->Mm×List (Tr×Nat)->Prop where
 | refl (p):M1 0 p p
 | step {i p s l1 l2 R n}:M1 i p (s,l1++(R,n)::l2)->R.live=true->M1 (i+1) p ((tS (R,s)).2,l1++((tS (R,s)).1,n+1)::l2)
end
end Go.Ct
namespace Go.Proofs.YtbajmaoegmbfgaaGreat
section
open Go Go.RowKit Go.Ct
theorem O2{t t':Tr}{s s':Mm}{j:Nat}(h:Rc j t s t' s')(hj:j=0)(ht:dG t=true):t'=t/\s'=s:=by
 induction h with
 | refl t s=>exact⟨rfl,rfl⟩
 | eV _ hs ih =>
  obtain⟨e1,e2⟩:=ih hj ht
  subst e1
  cases hs<;>cases ht
 | loud _ _ _=>cases hj
structure PX where
 e:EX
 m:Nat
 tb:Nat
 c:Cd
 n:Nat
structure LS where
 a:AS
 z:XS
 l:List PX
 B:Fr
def Ni(b:Nat)(l:List PX):List (Nat×Obj):=l.map λ p=>(p.tb,tO b p.c p.n)
abbrev qJ(ba bm:Nat)(S:LS):List (Nat×Obj):=(ba,eX S.a)::(bm,xM S.z)::(Ni ba S.l++oF bm (S.l.map PX.e))
abbrev rL(S:LS):List Ow:=⟨S.a.pn,gN S.a.L,S.a.cn,47,14⟩::⟨S.a.pc,aG S.a.cs,S.a.cc,37,1⟩::⟨S.z.pn,gN S.z.L,S.z.cn,47,14⟩::⟨S.z.pc,aG S.z.cs,S.z.cc,37,1⟩::mQ (S.l.map PX.e)
structure Vi(C:Nat)(z:XS)(p:PX):Prop where
 i:ny (T0 p.e.k p.m) (XS.wm p.e.x z) p.e.dn p.e.rs p.e.R
 kk:Yt p.e.k
 m:p.m<18446744073709551616
 em:p.e.k.mask=(p.m:Int)
 ht:p.e.k.t.root<=9223372036854775807
 ha:p.e.k.a<=z.L.length
 hb:p.e.k.b<=z.L.length
 hn:p.e.k.n<=z.L.length
 gl:p.e.x.got.length=p.n
 gc:p.n<=C
theorem Vi.wm{C:Nat}{z z':XS}{p:PX}{N:List aZ}(h:Vi C z p)(h':z'.Ok)(he:z'.L=z.L++N):Vi C z' p :=
 have hl:z.L.length<=z'.L.length:=by rw[he,List.length_append];omega
 ⟨lx h.i h' he,h.kk,h.m,h.em,h.ht,by have:=h.ha;omega,by have:=h.hb;omega,by have:=h.hn;omega,h.gl,h.gc⟩
theorem Vi.mono{C C':Nat}{z:XS}{p:PX}(h:Vi C z p)(hc:C<=C'):Vi C' z p:=⟨h.i,h.kk,h.m,h.em,h.ht,h.ha,h.hb,h.hn,h.gl,Nat.le_trans h.gc hc⟩
structure Ek(ba Bz C:Nat)(S:LS):Prop where
 z:S.z.Ok
 a:S.a.Ok
 mm:S.a.mm=S.z.mm
 sz:Sz S.z Bz
 p:∀p∈S.l,Vi C S.z p
 rp:∀p∈S.l,jB ba p.e.R S.z.mm p.c S.z.mm S.B
theorem Vi.rest{C:Nat}{z:XS}{p:PX}(h:Vi C z p):dG p.e.R=true:=mA h.i
theorem Vi.rX{C:Nat}{z:XS}{p:PX}(h:Vi C z p)(hC:C<1000000000):bQ p.e.R 2 64:=by
 obtain⟨c,h1,h2,_⟩:=h.i.wk.rX (n:=p.n+2) (Nat.le_refl 64) (jS _ _ (by have:=h.gc;omega)) (by show p.e.x.got.length<=_;rw[h.gl];omega)
 have hl:p.n+2-(XS.wm p.e.x z).got.length=2:=by show p.n+2-p.e.x.got.length=2;rw[h.gl];omega
 rw[hl] at h1
 rcases h.i.M2 with⟨_,e⟩|⟨_,e⟩
 ·rw[e];trivial
 ·exact Ig e h1 (by decide)
theorem Vi.live{C:Nat}{z:XS}{p:PX}(h:Vi C z p):p.e.R.live=!p.e.dn:=by
 rcases h.i.M2 with⟨e1,e⟩|⟨e1,e⟩
 ·rw[e,e1];rfl
 ·rw[e1]
  cases hR:p.e.R with
  | done r=>rw[hR] at e;simp[Tr.acc] at e
  | _=>rfl
theorem Ia(b:Nat)(l1 l2:List PX)(p:PX):Ni b (l1++p::l2)=Ni b l1++(p.tb,tO b p.c p.n)::Ni b l2:=by simp[Ni]
theorem bh(bm:Nat)(l1 l2:List PX)(p:PX):oF bm ((l1++p::l2).map PX.e)=oF bm (l1.map PX.e)++(p.e.b,xO p.e.k bm p.e.x p.e.dn p.e.rs)::oF bm (l2.map PX.e):=by simp[oF]
theorem aAo(l1 l2:List PX)(p:PX):mQ ((l1++p::l2).map PX.e)=mQ (l1.map PX.e)++(mQ [p.e]++mQ (l2.map PX.e)):=by simp[mQ]
theorem y6(b:Nat)(l1 l2:List PX):Ni b (l1++l2)=Ni b l1++Ni b l2:=by simp[Ni]
theorem zi(bm:Nat)(l1 l2:List PX):oF bm ((l1++l2).map PX.e)=oF bm (l1.map PX.e)++oF bm (l2.map PX.e):=by simp[oF]
theorem zr(l1 l2:List PX):mQ ((l1++l2).map PX.e)=mQ (l1.map PX.e)++mQ (l2.map PX.e):=by simp[mQ]
section
variable{ba bm:Nat}
theorem uh(a:AS)(z:XS)(B:Fr)(l1 l2:List PX)(p:PX):(qJ ba bm ⟨a,z,l1++p::l2,B⟩).Perm ([(p.tb,tO ba p.c p.n),(ba,eX a)]++((bm,xM z)::((Ni ba l1++Ni ba l2)++oF bm ((l1++p::l2).map PX.e)))):=by
 dsimp only[qJ]
 rw[Ia]
 exact xq _ _ _ _ _ _
theorem eh(a:AS)(z:XS)(B:Fr)(l1 l2:List PX)(p:PX):(qJ ba bm ⟨a,z,l1++p::l2,B⟩).Perm (xH p.e.k p.e.b bm (XS.wm p.e.x z) p.e.dn p.e.rs++((ba,eX a)::(Ni ba (l1++p::l2)++(oF bm (l1.map PX.e)++oF bm (l2.map PX.e))))):=by
 dsimp only[qJ]
 rw[bh]
 exact aAf _ _ _ _ _ _
theorem Vq(a:AS)(z:XS)(B:Fr)(l1 l2:List PX)(p:PX):(rL ⟨a,z,l1++p::l2,B⟩).Perm (xW (XS.wm p.e.x z)++(⟨a.pn,gN a.L,a.cn,47,14⟩::⟨a.pc,aG a.cs,a.cc,37,1⟩::(mQ (l1.map PX.e)++mQ (l2.map PX.e)))):=by
 dsimp only[rL]
 rw[aAo]
 exact aAa _ _ _ _ _ _ _
end
section
variable{ba bm Bz C:Nat}{D:List Nat}{A:Fr}{w:World}{a:AS}{z:XS}{l1 l2:List PX}{p:PX}{B:Fr}
theorem aBF(hS:Ek ba Bz C ⟨a,z,l1++p::l2,B⟩)(hd:p.e.dn=false)(hB:Bz<=100000000000)(hC:C<900000000)(hA1:∀f∈aM a.L,f∈A)(hA2:∀f∈B,f∈A)(hs:SF w D (qJ ba bm ⟨a,z,l1++p::l2,B⟩) A [] (rL ⟨a,z,l1++p::l2,B⟩) w) :
  Calls Tryz.prog 37 #[.pointer (some ⟨p.tb,0,none⟩)] w λ e w'=>∃y:Cd×Fr×AS,e=.returned (.tuple #[])/\mS ba (tS (p.e.R,z.mm)) a B y/\SF w D (qJ ba bm ⟨y.2.2,z,l1++{p with c:=y.1,n:=p.n+1}::l2,B⟩) [] y.2.1 (rL ⟨y.2.2,z,l1++{p with c:=y.1,n:=p.n+1}::l2,B⟩) w':=by
 have hp:p∈l1++p::l2:=List.mem_append_right _ (List.mem_cons_self ..)
 have hpk:=hS.p p hp
 have hmm:a.mm=z.mm:=hS.mm
 have hrp:jB ba p.e.R a.mm p.c a.mm B:=by rw[hmm];exact hS.rp p hp
 have hsm:a.mm.Small:=by
  rw[hmm]
  have h:=hS.sz
  have h1:z.L.length<=Bz:=h.1
  have h2:z.cs.length<=Bz:=h.2.1
  refine⟨?_,?_⟩
  ·show(z.L.map aZ.c).length<=_
   rw[List.length_map]
   omega
  ·show z.cs.length<=_
   omega
 have key:=tN (P:=Tryz.prog) (f:=37) (vs := #[.pointer (some ⟨p.tb,0,none⟩)]) (hs:=[(p.tb,tO ba p.c p.n),(ba,eX a)]) (os:=fU a) (A0:=aM a.L++B) (V:=λ _:Cd×Fr×AS=>.tuple #[]) (hs':=λ y=>[(p.tb,tO ba y.1 (p.n+1)),(ba,eX y.2.2)]) (os':=λ y=>fU y.2.2) (Fc:=λ y=>y.2.1) hs (uh a z B l1 l2 p) (List.Perm.refl _) (aX.of λ f hf=>.inr (.inl ((List.mem_append.1 hf).elim (hA1 f) (hA2 f))))
  (λ h=>Kk (i:=1) (m:=64) (hpk.rX (by omega)) hpk.rest (by rw[hpk.live,hd];rfl) hrp hS.a hsm (by have:=hpk.gc;omega) (λ f hf=>List.mem_append_left _ hf) (λ f hf=>List.mem_append_right _ hf) h)
 refine key.mono λ e w' ⟨y,e1,hy,hw⟩=>⟨y,e1,by rw[<- hmm];exact hy.1,?_⟩
 rw[List.append_nil] at hw
 have e:((l1++{p with c:=y.1,n:=p.n+1}::l2).map PX.e)=(l1++p::l2).map PX.e:=by simp
 refine hw.r7.perm ?_ ?_
 ·have pH:=uh (ba:=ba) (bm:=bm) y.2.2 z B l1 l2 {p with c:=y.1,n:=p.n+1}
  rw[e] at pH
  exact pH
 ·show List.Perm (_::_::_::_::mQ ((l1++{p with c:=y.1,n:=p.n+1}::l2).map PX.e)) _
  rw[e]
  exact List.Perm.refl _
theorem aBD{c':Cd}{F':Fr}{a':AS}(hS:Ek ba Bz C ⟨a,z,l1++p::l2,B⟩)(hd:p.e.dn=false)(hB:Bz<=100000000000)(hC:C<900000000)(hy:mS ba (tS (p.e.R,z.mm)) a B (c',F',a'))(hA:∀f∈aM z.L,f∈A)(hs:SF w D (qJ ba bm ⟨a',z,l1++{p with c:=c',n:=p.n+1}::l2,B⟩) A [] (rL ⟨a',z,l1++{p with c:=c',n:=p.n+1}::l2,B⟩) w) :
  Calls Tryz.prog 68 #[.pointer (some ⟨p.e.b,0,none⟩)] w λ e w'=>∃q:LS×List aZ,e=.returned (.tuple #[])/\(Ek ba (Bz+128) (C+1) q.1/\q.1.a=a'/\q.1.B=F'++B/\q.1.z.L=z.L++q.2/\(∃p',q.1.l=l1++p'::l2/\p'.e.b=p.e.b/\p'.tb=p.tb/\p'.n=p.n+1/\p'.e.R=(tS (p.e.R,z.mm)).1/\p'.e.k=p.e.k/\p'.m=p.m)/\q.1.z.mm=(tS (p.e.R,z.mm)).2)/\SF w D (qJ ba bm q.1) [] (aM q.2) (rL q.1) w':=by
 have hp:p∈l1++p::l2:=List.mem_append_right _ (List.mem_cons_self ..)
 have hpk:=hS.p p hp
 obtain⟨s1,s2,s3⟩:=hS.sz
 simp only at s1 s2 s3
 have hgl:=hpk.gl
 have hgc:=hpk.gc
 have key:=tN (P:=Tryz.prog) (f:=68) (vs := #[.pointer (some ⟨p.e.b,0,none⟩)]) (hs:=xH p.e.k p.e.b bm (XS.wm p.e.x z) p.e.dn p.e.rs) (os:=xW (XS.wm p.e.x z)) (A0:=aM z.L) hs (eh a' z B l1 l2 {p with c:=c',n:=p.n+1}) (Vq a' z B l1 l2 {p with c:=c',n:=p.n+1}) (aX.of λ f hf=>.inr (.inl (hA f hf)))
  (λ h=>Mv (x:=XS.wm p.e.x z) (N:=p.e.x.got.length+1) (n:=1073741824) (m:=p.m) (jS p.e.k p.m (by omega)) (by omega) rfl ⟨by show z.L.length<=_;omega,by show z.cs.length<=_;omega,by show z.gen<=_;omega⟩ hpk.i hpk.kk (Nat.le_refl _) hpk.m hpk.em hpk.ht hpk.ha hpk.hb hpk.hn (λ f hf=>hf) h)
 refine key.mono λ en w' ⟨⟨x',N,dn',rs'⟩,e1,hq,hw⟩=>?_
 rw[List.append_nil] at hw
 rcases hq with⟨hd',_⟩|⟨_,hq⟩
 ·rw[hd] at hd';cases hd'
 ·obtain⟨R1,j1,g1,g2,g3,g4,g5,g6,g7⟩:=qB.exN hq
  replace g4:Rc j1 p.e.R z.mm R1 x'.mm:=g4
  have h5:x'.L=z.L++N:=g5
  have hpl:p.e.R.live=true:=by rw[hpk.live,hd];rfl
  have hj1:j1=1:=by
   rcases Nat.lt_or_ge j1 1 with h|h
   ·exfalso
    have e0:j1=0:=by omega
    obtain⟨e2,_⟩:=O2 g4 e0 hpk.rest
    rcases g3.M2 with⟨_,e3⟩|⟨e3,_⟩
    ·rw[<- e2,e3] at hpl;cases hpl
    ·have:=g2 e3;omega
   ·omega
  subst hj1
  have est:tS (p.e.R,z.mm)=(R1,x'.mm):=cr g4 hpk.rest (mA g3)
  have hgot:x'.got.length=p.n+1:=by have:x'.got.length+1=p.e.x.got.length+1+1:=g7;omega
  have hsz':Sz x' (Bz+128):=wV hpk.i hd (jS p.e.k p.m (n:=p.e.x.got.length+1) (by omega)) (Nat.le_refl _) g4 g1 hS.sz
  have hlen:z.L.length<=x'.L.length:=by rw[h5,List.length_append];omega
  have hle:z.mm.Le x'.mm:=⟨⟨N.map aZ.c,by show x'.L.map aZ.c=_;rw[h5,List.map_append];rfl⟩,g6⟩
  obtain⟨⟨y1,y2⟩,y3,y4⟩:=hy
  rw[est] at y1 y2
  have hr:∀q∈l1++p::l2,jB ba q.e.R x'.mm q.c x'.mm (F'++B):=λ q hq=>((hS.rp q hq).le (hS.p q hq).rest hle).more λ x hx=>List.mem_append_right _ hx
  have hpo:∀q∈l1++p::l2,Vi (C+1) x' q:=λ q hq=>((hS.p q hq).wm g3.ok h5).mono (Nat.le_succ _)
  refine⟨(⟨a',x',l1++⟨⟨p.e.b,p.e.k,x',dn',rs',R1⟩,p.m,p.tb,c',p.n+1⟩::l2,F'++B⟩,N),e1,⟨⟨g3.ok,y3,y2,hsz',λ q hq=>?_,λ q hq=>?_⟩,rfl,rfl,h5,⟨_,rfl,rfl,rfl,rfl,by rw[est],rfl,rfl⟩,by rw[est]⟩,?_⟩
  ·rcases List.mem_append.1 hq with hq|hq
   ·exact hpo q (List.mem_append_left _ hq)
   ·rcases List.mem_cons.1 hq with rfl|hq
    ·exact⟨g3,hpk.kk,hpk.m,hpk.em,hpk.ht,by have:=hpk.ha;simp only at this ⊢;omega,by have:=hpk.hb;simp only at this ⊢;omega,by have:=hpk.hn;simp only at this ⊢;omega,hgot,by show p.n+1<=C+1;omega⟩
    ·exact hpo q (List.mem_append_right _ (List.mem_cons_of_mem _ hq))
  ·rcases List.mem_append.1 hq with hq|hq
   ·exact hr q (List.mem_append_left _ hq)
   ·rcases List.mem_cons.1 hq with rfl|hq
    ·exact y1
    ·exact hr q (List.mem_append_right _ (List.mem_cons_of_mem _ hq))
  ·have pH:=eh (ba:=ba) (bm:=bm) a' x' (F'++B) l1 l2 ⟨⟨p.e.b,p.e.k,x',dn',rs',R1⟩,p.m,p.tb,c',p.n+1⟩
   have pO:=Vq a' x' (F'++B) l1 l2 ⟨⟨p.e.b,p.e.k,x',dn',rs',R1⟩,p.m,p.tb,c',p.n+1⟩
   refine hw.r7.perm (pH.trans ?_) (pO.trans ?_)
   ·refine List.Perm.of_eq ?_
    rw[Ia,Ia]
    rfl
   ·exact List.Perm.refl _
end
end

end Go.Proofs.YtbajmaoegmbfgaaGreat
