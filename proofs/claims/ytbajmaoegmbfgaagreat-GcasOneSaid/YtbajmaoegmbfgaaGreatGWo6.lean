/- Merged. -/
import Derived.Test.YtbajmaoegmbfgaaGreatGTm2
import Derived.Test.YtbajmaoegmbfgaaGreatGWo4
import Derived.Test.YtbajmaoegmbfgaaGreatGKx8
import Derived.Test.YtbajmaoegmbfgaaGreatGJoin
import Derived.Test.YtbajmaoegmbfgaaGreatGBr2
import Derived.Test.YtbajmaoegmbfgaaGreatGAr9
import Derived.Test.YtbajmaoegmbfgaaGreatGNode2
import Derived.Test.YtbajmaoegmbfgaaGreatGBitsE
set_option linter.unusedSimpArgs false
set_option linter.unusedVariables false
namespace Go.Ct
open Go Go.RowKit
section
section
variable{α:Type}
theorem nZ.pre:∀(es r:List α),nZ (es++r) (List.replicate es.length 0) es r
 | [],r=>.nil
 | a::es,r=>.cons .head (nZ.pre es r)
end
theorem E1{P:Program}{f:FuncId}{vs:Array Value}{X:Type}{V:X->Value}{φ:X->Prop}{w0 w:World}{M:List Nat}{H hs H':List (Nat×Obj)}{A A0 F:Fr}{O os O':List Ow}{hs':X->List (Nat×Obj)}{os':X->List Ow}{Fc:X->Fr}
  (h:SF w0 M H A F O w) (pH:H.Perm (hs++H')) (pO:O.Perm (os++O')) (hA:bH A F O' A0)
  (hc:SF w (Ks hs os) hs A0 [] os w->Calls P f vs w λ e w'=>∃x,e=.returned (V x)/\φ x/\SF w (Ks hs os) (hs' x) [] (Fc x) (os' x) w') :
  Calls P f vs w λ e w'=>∃x,e=.returned (V x)/\φ x/\SF w0 M (hs' x++H') A (Fc x++F) (os' x++O') w':=by
 have h1:=h.perm pH.symm pO.symm
 refine(hc (h1.sV (nZ.pre hs H') (nZ.pre os O') hA)).mono λ e w' ⟨x,e1,hx,hw⟩=>⟨x,e1,hx,?_⟩
 have kperm:∀(a c:List (Nat×Obj)) (b d:List Ow),(Ks (a++c) (b++d)).Perm (Ks a b++Ks c d):=λ a c b d=>by
  unfold Ks
  rw[List.map_append,List.flatMap_append]
  simp only[List.append_assoc]
  refine List.Perm.append_left _ ?_
  rw[<- List.append_assoc,<- List.append_assoc]
  exact List.Perm.append_right _ List.perm_append_comm
 have nd0:=(kperm hs H' os O').nodup_iff.1 h1.dis
 have disj:∀b∈Ks hs os,b∉Ks H' O':=λ b hb hm=>(List.nodup_append.1 nd0).2.2 b hb b hm rfl
 exact h1.dk (D:=Ks hs os) (Hm:=[]) (Hc:=hs' x) (H1:=H') (Fc:=Fc x) (Om:=[]) (Oc:=os' x) (O1:=O') hw (λ b hb=>(kperm hs H' os O').mem_iff.2 (List.mem_append_left _ hb))
  (λ p hpm=>.inr ⟨List.mem_append_right _ hpm,λ hm=>disj _ hm (eJ.2 (.inl ⟨p,hpm,rfl⟩))⟩)
  (λ o ho=>.inr ⟨List.mem_append_right _ ho,λ b hb hm=>disj _ hm (eJ.2 (.inr ⟨o,ho,hb⟩))⟩)
  (List.nodup_append.1 nd0).2.1
end
end Go.Ct
namespace Go.Proofs.YtbajmaoegmbfgaaGreat
open Go Go.RowKit Go.Ct
section
structure EX where
 b:Nat
 k:Cl
 x:XS
 dn:Bool
 rs:Rs
 R:Tr
structure Wd where
 z:XS
 ts:List dU
 pt:Option Addr
 kt:Nat
 ex:List EX
 pe:Option Addr
 ke:Nat
def G4(bm:Nat)(l:List EX):List (Nat×Obj):=l.map λ e=>(e.b,xO e.k bm e.x e.dn e.rs)
def Dd(l:List EX):List Ow:=l.flatMap λ e=>[⟨e.x.pg,aH e.x.got,e.x.kg,37,1⟩,⟨e.x.pm,aH e.x.made,e.x.km,37,1⟩,⟨e.x.pl,aH e.x.cel,e.x.kl,27,1⟩,⟨e.x.pe,aH e.x.gns,e.x.ke,3,1⟩]
def nL(l:List EX):List Nat:=l.map EX.b
abbrev wH(m bw bm:Nat)(W:Wd):List (Nat×Obj):=(bw,lB bm (m:Int) W.pt W.ts.length W.kt W.pe (nL W.ex).length W.ke)::(bm,xM W.z)::G4 bm W.ex
abbrev wO(W:Wd):List Ow:=⟨W.pt,rT W.ts,W.kt,29,2⟩::⟨W.pe,wX (nL W.ex),W.ke,74,1⟩::⟨W.z.pn,iI W.z.L,W.z.cn,47,14⟩::⟨W.z.pc,aH W.z.cs,W.z.cc,37,1⟩::Dd W.ex
def XS.wm(x z:XS):XS:={x with L:=z.L,cs:=z.cs,gen:=z.gen,acc:=z.acc,pn:=z.pn,cn:=z.cn,pc:=z.pc,cc:=z.cc}
theorem aAx{x z z':XS}{N:List aQ}(h:(XS.wm x z).Ok)(h':z'.Ok)(e:z'.L=z.L++N):(XS.wm x z').Ok:=by
 have hl:z.L.length<=z'.L.length:=by rw[e,List.length_append];omega
 exact⟨h'.fit,h'.nd,h'.cs,λ v hv=>by have:=h.got v hv;show v<=z'.L.length;have h2:v<=z.L.length:=this;omega,λ v hv=>by have:=h.made v hv;show v<=z'.L.length;have h2:v<=z.L.length:=this;omega,h'.two,h'.lL,h'.lc,h.lg,h.la,h.lm,h.lk,h.le,h.fr,h'.ys,h'.gen0,h.ms,h.m1⟩
theorem uf{z:XS}(h:z.Ok):(XS.new z.L z.cs z.gen z.acc z.pn z.cn z.pc z.cc).Ok :=
 ⟨h.fit,h.nd,h.cs,(λ v hv=>nomatch hv),(λ v hv=>nomatch hv),h.two,h.lL,h.lc,Nat.zero_le _,Nat.le_refl _,Nat.le_refl _,Nat.le_refl _,Nat.le_refl _,Nat.zero_le _,h.ys,h.gen0,(λ i j _ hj=>absurd hj (Nat.not_lt_zero j)),(λ v hv=>nomatch hv)⟩
theorem yw{T:Tr}{x z z':XS}{dn:Bool}{rs:Rs}{R:Tr}{N:List aQ}(h:qv T (XS.wm x z) dn rs R)(h':z'.Ok)(e:z'.L=z.L++N):qv T (XS.wm x z') dn rs R:=by
 refine⟨aAx h.ok h' e,?_,h.Z0⟩
 have hw:=h.wk
 show Wk (z'.L.map aQ.c) T x.got x.made x.cel x.gns R
 rw[e,List.map_append]
 exact Wk.mono hw
structure EOk(m C:Nat)(z:XS)(e:EX):Prop where
 i:qv (T0 e.k m) (XS.wm e.x z) e.dn e.rs e.R
 k:7<=e.k.kind/\e.k.kind<=12
 em:e.k.mask=(m:Int)
 ht:e.k.t.root<=9223372036854775807
 ha:e.k.a=0/\e.k.b=0/\e.k.n=0
 gl:e.x.got.length<=C
theorem EOk.wm{m C:Nat}{z z':XS}{e:EX}{N:List aQ}(h:EOk m C z e)(h':z'.Ok)(he:z'.L=z.L++N):EOk m C z' e:=⟨yw h.i h' he,h.k,h.em,h.ht,h.ha,h.gl⟩
theorem Of{T R:Tr}{x:XS}{dn:Bool}{rs:Rs}(h:qv T x dn rs R):eE R=true:=by
 rcases h.Z0 with⟨_,e⟩|⟨_,e⟩
 ·rw[e];rfl
 ·cases R<;>first|rfl|(simp[Tr.acc] at e)
structure C1(m B C E:Nat)(W:Wd):Prop where
 z:W.z.Ok
 sz:Sz W.z B
 ex:∀e∈W.ex,EOk m C W.z e
 t0:0<W.ts.length
 tr:(W.ts.getD 0 ⟨0,false⟩).ro=false
 tl:W.ts.length<=5
 el:W.ex.length<=E
 wr:WR (H8 m) m W.z.mm W.ts (W.ex.map EX.R)
theorem C1.root{m B C E:Nat}{W:Wd}(h:C1 m B C E W)(hB:B<=1000000000000){t:dU}(ht:t∈W.ts):t.root<=9223372036854775807:=by
 obtain⟨σ,hi⟩:=h.wr.inv
 have h1:=(hi.ts t ht).2.1
 have h2:=h.sz.2.1
 have e:σ.cl=W.z.cs.length:=by simp only[Kw.cl,hi.mm];rfl
 omega
theorem X2{m:Nat}{k:Cl}{ts:List dU}(hk:7<=k.kind/\k.kind<=12)(hm:m<18446744073709551616)(ht:k.t∈ts)(hky:k.key∈lY)(hro:wrK k.kind->k.t.ro=false){s:Mm}:∀σ:Kw,σ.mm=s->Inv (H8 m) σ->(∀t∈ts,bX σ t)->Uc (H8 m) σ k (mJ k.key m):=λ σ _ _ h =>
 ⟨h _ ht,uB _ _,if_pos hky,hro,.inl hk⟩
section
variable{m B C E bw bm:Nat}{D:List Nat}{A:Fr}{w:World}
set_option maxHeartbeats 1000000 in
theorem r9{W:Wd}{q:Fv}{kind:Int}(steps:Nat)(hst:steps<=1048576)(hC:steps<=C)(hB:B<=100000000000)(hm:m<18446744073709551616)(hW:C1 m B C E W)(hE:E<=900)(hkd:7<=kind/\kind<=12)(hq:N9 kind W.ts q)(hA:∀f∈aN W.z.L,f∈A)(hs:SF w D (wH m bw bm W) A [] (wO W) w) :
  Calls Tryz.prog 67 #[.pointer (some ⟨bw,0,none⟩),.agg ⟨Rv (q.cl kind m)⟩,.int .i64 (steps:Int)] w λ e w'=>∃r:Wd×List aQ,e=.returned (.tuple #[])/\(C1 m (B+64+128*steps) C (E+1) r.1/\r.1.z.L=W.z.L++r.2)/\SF w D (wH m bw bm r.1) [] (aN r.2) (wO r.1) w':=by
 have hwt:=hW.root (by omega) hq.mem
 have hlen:(nL W.ex).length=W.ex.length:=by simp[nL]
 have hel:=hW.el
 have htl:=hW.tl
 have:=E1 (f:=67) (H':=G4 bm W.ex) (O':=Dd W.ex) (hs:=[(bw,lB bm (m:Int) W.pt W.ts.length W.kt W.pe (nL W.ex).length W.ke),(bm,xM W.z)]) (os:=[⟨W.pt,rT W.ts,W.kt,29,2⟩,⟨W.pe,wX (nL W.ex),W.ke,74,1⟩,⟨W.z.pn,iI W.z.L,W.z.cn,47,14⟩,⟨W.z.pc,aH W.z.cs,W.z.cc,37,1⟩]) (A0:=aN W.z.L) hs (List.Perm.refl _) (List.Perm.refl _) (bH.of λ f hf=>.inr (.inl (hA f hf)))
  (λ h=>z7 (k:=q.cl kind m) (m:=m) (B:=B) steps hst hB hW.sz (.inr ⟨hkd.1,hkd.2⟩) hm rfl hwt rfl rfl rfl (λ f hf=>hf) (uf hW.z) (by omega) (by omega) h)
 refine this.mono λ e w' ⟨⟨bx,y,kq⟩,e1,⟨hi,his,hk⟩,hw⟩=>?_
 replace his:y.i<=steps:=his
 replace hi:Np (q.cl kind m) m (XS.new W.z.L W.z.cs W.z.gen W.z.acc W.z.pn W.z.cn W.z.pc W.z.cc) B y:=hi
 have hext:y.x.L=W.z.L++y.N:=hi.ext
 obtain⟨j,hrc⟩:=hi.rc
 have hstart:WR (H8 m) m y.x.mm W.ts (y.R::W.ex.map EX.R):=.start hW.wr (X2 hkd hm hq.mem hq.ky hq.ro) hrc (Of hi.ex)
 have hszy:Sz y.x (B+64+128*steps):=by obtain⟨z1,z2,z3⟩:=hi.sz;exact⟨by omega,by omega,by omega⟩
 have hexs:∀e∈W.ex,EOk m C y.x e:=λ e he=>(hW.ex e he).wm hi.ex.ok hext
 rw[List.append_nil] at hw
 obtain⟨i,x,N,dn,rs,R⟩:=y
 cases dn with
 | true =>
  rcases hk with⟨hd,_⟩|⟨_,he,hts⟩
  ·cases hd
  ·have hR:R=.done rs:=by rcases hi.ex.Z0 with⟨_,h⟩|⟨h,_⟩;exact h;cases h
   have hL:kq.ts.length<=5/\0<kq.ts.length/\(kq.ts.getD 0 ⟨0,false⟩).ro=false/\WR (H8 m) m x.mm kq.ts (W.ex.map EX.R):=by
    rcases hts with hts|⟨h0,h5,hts⟩
    ·rw[hts];exact⟨hW.tl,hW.t0,hW.tr,by subst hR;exact hstart.drop⟩
    ·refine⟨h5,by rw[hts];simp,?_,?_⟩
     ·rw[hts,iU,List.getElem?_append_left hW.t0,<- iU];exact hW.tr
     ·rw[hts]
      subst hR
      exact(hstart.add h0).drop
   refine⟨(⟨x,kq.ts,kq.pt,kq.kt,W.ex,kq.pe,kq.ke⟩,N),e1,⟨⟨hi.ex.ok,hszy,hexs,hL.2.1,hL.2.2.1,hL.1,by show W.ex.length<=E+1;omega,hL.2.2.2⟩,hext⟩,?_⟩
   have hes:kq.es=nL W.ex:=he
   dsimp only[wH,wO]
   rw[<- hes]
   exact hw.noA
 | false =>
  rcases hk with⟨_,he,hts⟩|⟨hd,_⟩
  ·have hes:nL (W.ex++[⟨bx,q.cl kind m,x,false,rs,R⟩])=kq.es:=by rw[he];simp[nL]
   refine⟨(⟨x,kq.ts,kq.pt,kq.kt,W.ex++[⟨bx,q.cl kind m,x,false,rs,R⟩],kq.pe,kq.ke⟩,N),e1,⟨⟨hi.ex.ok,hszy,λ e he=>?_,by rw[show kq.ts=W.ts from hts];exact hW.t0,by rw[show kq.ts=W.ts from hts];exact hW.tr,by rw[show kq.ts=W.ts from hts];exact hW.tl,by simp;omega,?_⟩,hext⟩,?_⟩
   ·rcases List.mem_append.1 he with he|he
    ·exact hexs e he
    ·rw[List.mem_singleton.1 he]
     exact⟨hi.ex,hkd,rfl,hwt,⟨rfl,rfl,rfl⟩,by have:=hi.gl;show x.got.length<=C;simp only at this his;omega⟩
   ·rw[show kq.ts=W.ts from hts,List.map_append]
    exact hstart.perm (List.perm_append_comm (l₁:=[R]))
   ·dsimp only[wH,wO]
    rw[hes]
    refine hw.noA.perm ?_ ?_
    ·have e2:G4 bm (W.ex++[⟨bx,q.cl kind m,x,false,rs,R⟩])=G4 bm W.ex++[(bx,xO (q.cl kind m) bm x false rs)]:=by simp[G4]
     rw[e2]
     exact(List.perm_append_comm (l₁:=(bw,_)::(bm,_)::G4 bm W.ex) (l₂:=[(bx,xO (q.cl kind m) bm x false rs)]))
    ·have e2:Dd (W.ex++[⟨bx,q.cl kind m,x,false,rs,R⟩])=Dd W.ex++xE4 x false:=by simp[Dd,xE4]
     rw[e2]
     exact(List.perm_append_comm (l₁:=_::_::_::_::Dd W.ex) (l₂:=xE4 x false))
  ·cases hd
abbrev Wd.go(W:Wd)(z:XS)(ex:List EX):Wd:=⟨z,W.ts,W.pt,W.kt,ex,W.pe,W.ke⟩
def StX(W:Wd)(i:Nat)(z:XS)(ex:List EX):Prop:=∃l1 e e' l2,W.ex=l1++e::l2/\l1.length=i/\ex=l1++e'::l2/\e'.b=e.b/\((e.dn=true/\e'=e)∨(e.dn=false/\∃j,j<=1/\(e'.dn=false->j=1)/\Rc j e.R W.z.mm e'.R z.mm))
theorem Fj{l:List EX}{i:Nat}(hi:i<l.length):∃l1 e l2,l=l1++e::l2/\l1.length=i:=by
 refine⟨l.take i,l[i],l.drop (i+1),?_,by simp;omega⟩
 rw[<- List.drop_eq_getElem_cons hi,List.take_append_drop]
theorem aAZ{W:Wd}{l1 l2:List EX}{e:EX}(hl:W.ex=l1++e::l2):(wH m bw bm W).Perm (xH e.k e.b bm (XS.wm e.x W.z) e.dn e.rs++((bw,lB bm (m:Int) W.pt W.ts.length W.kt W.pe (nL W.ex).length W.ke)::G4 bm (l1++l2))):=by
 have e1:G4 bm W.ex=G4 bm l1++(e.b,xO e.k bm (XS.wm e.x W.z) e.dn e.rs)::G4 bm l2:=by rw[hl];simp only[G4,List.map_append,List.map_cons];rfl
 have e2:G4 bm (l1++l2)=G4 bm l1++G4 bm l2:=by simp[G4]
 dsimp only[wH]
 rw[e1,e2]
 refine(List.Perm.swap _ _ _).trans ?_
 refine(((List.perm_middle (a:=(e.b,xO e.k bm (XS.wm e.x W.z) e.dn e.rs)) (l₁:=G4 bm l1) (l₂:=G4 bm l2)).cons _).cons _).trans ?_
 refine((List.Perm.swap _ _ _).cons _).trans ?_
 exact List.Perm.swap _ _ _
theorem aAM{W:Wd}{l1 l2:List EX}{e:EX}(hl:W.ex=l1++e::l2):(wO W).Perm (xW (XS.wm e.x W.z)++(⟨W.pt,rT W.ts,W.kt,29,2⟩::⟨W.pe,wX (nL W.ex),W.ke,74,1⟩::Dd (l1++l2))):=by
 have e1:Dd W.ex=Dd l1++(Dd [e]++Dd l2):=by rw[hl];simp[Dd]
 have e2:Dd (l1++l2)=Dd l1++Dd l2:=by simp[Dd]
 dsimp only[wO]
 rw[e1,e2]
 have hx:xW (XS.wm e.x W.z)=Dd [e]++[⟨W.z.pn,iI W.z.L,W.z.cn,47,14⟩,⟨W.z.pc,aH W.z.cs,W.z.cc,37,1⟩]:=rfl
 rw[hx]
 generalize Dd [e]=oe
 generalize Dd l1=o1
 generalize Dd l2=o2
 have p1:(o1++(oe++o2)).Perm (oe++(o1++o2)):=by
  rw[<- List.append_assoc,<- List.append_assoc]
  exact List.perm_append_comm.append_right _
 refine((((p1.cons _).cons _).cons _).cons _).trans ?_
 have p2:∀(a b c d:Ow) (l r:List Ow),(a::b::c::d::(l++r)).Perm (l++[c,d]++(a::b::r)):=λ a b c d l r=>by
  have h1:([a,b]++[c,d]++l++r).Perm (l++[c,d]++[a,b]++r):=by
   refine List.Perm.append_right r ?_
   refine List.perm_append_comm.trans ?_
   rw[List.append_assoc]
   exact List.Perm.append_left l List.perm_append_comm
  simpa using h1
 exact p2 _ _ _ _ _ _
theorem Oq{W:Wd}{i:Nat}(hi:i<W.ex.length)(hC:C<=1000000000)(hB:B<=100000000000)(hm:m<18446744073709551616)(hW:C1 m B C E W)(hA:∀f∈aN W.z.L,f∈A)(hs:SF w D (wH m bw bm W) A [] (wO W) w) :
  Calls Tryz.prog 68 #[.pointer (some ⟨(nL W.ex).getD i 0,0,none⟩)] w λ e w'=>∃q:XS×List EX×List aQ,e=.returned (.tuple #[])/\(C1 m (B+128) (C+1) E (W.go q.1 q.2.1)/\q.1.L=W.z.L++q.2.2/\StX W i q.1 q.2.1)/\SF w D (wH m bw bm (W.go q.1 q.2.1)) [] (aN q.2.2) (wO (W.go q.1 q.2.1)) w':=by
 obtain⟨l1,e,l2,hl,hi1⟩:=Fj hi
 have hb:(nL W.ex).getD i 0=e.b:=by rw[hl,<- hi1];simp[nL]
 rw[hb]
 have he:=hW.ex e (by rw[hl];simp)
 have hsz:=hW.sz
 obtain⟨s1,s2,s3⟩:=hsz
 have hgl:=he.gl
 have pH:=aAZ (m:=m) (bw:=bw) (bm:=bm) hl
 have pO:=aAM hl
 have key:=E1 (f:=68) (A0:=aN W.z.L) hs pH pO (bH.of λ f hf=>.inr (.inl (hA f hf)))
  (λ h=>iz (x:=XS.wm e.x W.z) (N:=e.x.got.length+1) (n:=1073741824) (m:=m) (rC e.k m (by omega)) (by omega) rfl ⟨by show W.z.L.length<=_;omega,by show W.z.cs.length<=_;omega,by show W.z.gen<=_;omega⟩ he.i (.inr he.k) (Nat.le_refl _) hm he.em he.ht (by rw[he.ha.1];exact bL _) (by rw[he.ha.2.1];exact bL _) (by rw[he.ha.2.2];exact bL _) (λ f hf=>hf) h)
 refine key.mono λ en w' ⟨⟨x',N,dn',rs'⟩,e1,hq,hw⟩=>?_
 rw[List.append_nil] at hw
 rcases hq with⟨hd,hq⟩|⟨hd,hq⟩
 ·have h1:x'=XS.wm e.x W.z:=congrArg (λ q:XS×List aQ×Bool×Rs=>q.1) hq
  have h2:N=[]:=congrArg (λ q:XS×List aQ×Bool×Rs=>q.2.1) hq
  have h3:dn'=true:=congrArg (λ q:XS×List aQ×Bool×Rs=>q.2.2.1) hq
  have h4:rs'=e.rs:=congrArg (λ q:XS×List aQ×Bool×Rs=>q.2.2.2) hq
  subst h1 h2 h3 h4
  refine⟨(W.z,W.ex,[]),e1,⟨⟨hW.z,⟨by show W.z.L.length<=_;omega,by show W.z.cs.length<=_;omega,by show W.z.gen<=_;omega⟩,λ x hx=>?_,hW.t0,hW.tr,hW.tl,hW.el,hW.wr⟩,by simp,l1,e,e,l2,hl,hi1,hl,rfl,.inl ⟨hd,rfl⟩⟩,?_⟩
  ·have:=hW.ex x hx
   exact⟨this.i,this.k,this.em,this.ht,this.ha,by have:=this.gl;omega⟩
  ·have hw2:=hw.noA.perm (H':=wH m bw bm W) (O':=wO W) (by rw[hd] at pH;exact pH) pO
   exact hw2
 ·obtain⟨R',j,h1,h2,h3,h4,h5,h6⟩:=Ay.exI hq
  have hx':XS.wm x' x'=x':=rfl
  have hext:x'.L=W.z.L++N:=h5
  have hsz':Sz x' (B+128):=Li he.i hd (rC e.k m (n:=e.x.got.length+1) (by omega)) (Nat.le_refl _) h4 h1 hW.sz
  have hwr:WR (H8 m) m x'.mm W.ts ((l1++⟨e.b,e.k,x',dn',rs',R'⟩::l2).map EX.R):=by
   have w1:=hW.wr
   rw[hl,List.map_append,List.map_cons] at w1
   have w2:=(w1.perm List.perm_middle).step h4 (Of h3)
   rw[List.map_append,List.map_cons]
   exact w2.perm List.perm_middle.symm
  have hgl':=Ay.gl hq
  have hexB:nL (l1++⟨e.b,e.k,x',dn',rs',R'⟩::l2)=nL W.ex:=by rw[hl];simp[nL]
  refine⟨(x',l1++⟨e.b,e.k,x',dn',rs',R'⟩::l2,N),e1,⟨⟨h3.ok,hsz',λ y hy=>?_,hW.t0,hW.tr,hW.tl,by have:=hW.el;rw[hl] at this;simpa using this,hwr⟩,hext,l1,e,⟨e.b,e.k,x',dn',rs',R'⟩,l2,hl,hi1,rfl,rfl,.inr ⟨hd,j,h1,h2,h4⟩⟩,?_⟩
  ·rcases List.mem_append.1 hy with hy|hy
   ·have:=(hW.ex y (by rw[hl];exact List.mem_append_left _ hy)).wm h3.ok hext
    exact⟨this.i,this.k,this.em,this.ht,this.ha,by have:=this.gl;omega⟩
   ·rcases List.mem_cons.1 hy with rfl|hy
    ·exact⟨h3,he.k,he.em,he.ht,he.ha,by show x'.got.length<=C+1;have:x'.got.length<=e.x.got.length+1:=hgl';omega⟩
    ·have:=(hW.ex y (by rw[hl];exact List.mem_append_right _ (List.mem_cons_of_mem _ hy))).wm h3.ok hext
     exact⟨this.i,this.k,this.em,this.ht,this.ha,by have:=this.gl;omega⟩
  ·rw[<- hexB] at hw
   exact hw.noA.perm (aAZ (W:=W.go x' (l1++⟨e.b,e.k,x',dn',rs',R'⟩::l2)) rfl) (aAM (W:=W.go x' (l1++⟨e.b,e.k,x',dn',rs',R'⟩::l2)) rfl)
theorem de{W:Wd}{i:Nat}(hi:i<W.ex.length)(hC:C<=1000000000)(hB:B<=100000000000)(hm:m<18446744073709551616)(hW:C1 m B C E W)(hA:∀f∈aN W.z.L,f∈A)(hs:SF w D (wH m bw bm W) A [] (wO W) w) :
  Calls Tryz.prog 68 #[.pointer (some ⟨(nL W.ex).getD i 0,0,none⟩)] w λ e w'=>∃r:Wd×List aQ,e=.returned (.tuple #[])/\(C1 m (B+128) (C+1) E r.1/\r.1.ts=W.ts/\r.1.z.L=W.z.L++r.2)/\SF w D (wH m bw bm r.1) [] (aN r.2) (wO r.1) w' :=
 (Oq hi hC hB hm hW hA hs).mono λ _ _ ⟨q,e,h,hw⟩=>⟨(W.go q.1 q.2.1,q.2.2),e,⟨h.1,rfl,h.2.1⟩,hw⟩
end
end
end Go.Proofs.YtbajmaoegmbfgaaGreat
namespace Go.Ct
open Go Go.RowKit
section
section
variable{P:Program}{S:List (Nat×Value)}{G:World->Prop}{d:Nat}{ty t t' e:TypeId}{pos:String}{af:Array Edge}{gd:Option (Nat×Bool)}{x y:Operand}{w0 w:World}{M:List Nat}{H:List (Nat×Obj)}{A F:Fr}{O:List Ow}{a:Option Addr}
theorem SF.aCW{b c sz:Nat}{cs:List Value}{T:TypeId}(h:SF w0 M ((b,.cells ⟨cs⟩ T (0,0))::H) A F O w)(hl:cs.length=c*sz):SF w0 M H A F (⟨some ⟨b,0,none⟩,cs,c,T,sz⟩::O) w:=by
 have hp:(Ks H (⟨some ⟨b,0,none⟩,cs,c,T,sz⟩::O)).Perm (Ks ((b,.cells ⟨cs⟩ T (0,0))::H) O):=by
  unfold Ks
  simp only[List.flatMap_cons,iJ,List.map_cons,List.cons_append,List.nil_append]
  exact List.perm_middle
 have hb:=h.st.has (b,.cells ⟨cs⟩ T (0,0)) (List.mem_cons_self ..)
 have hn:=h.st.new (b,.cells ⟨cs⟩ T (0,0)) (List.mem_cons_self ..)
 refine⟨h.st.sub (List.sublist_cons_self ..),λ f hf=>⟨(h.bK f hf).1,λ hc hm=>(h.bK f hf).2 hc (hp.mem_iff.1 hm)⟩,λ f hf=>⟨(h.new f hf).1,λ hc=>⟨λ hm=>((h.new f hf).2 hc).1 (hp.mem_iff.1 hm),((h.new f hf).2 hc).2⟩⟩,λ o ho=>?_,hp.nodup_iff.2 h.dis⟩
 rcases List.mem_cons.1 ho with rfl|ho
 ·refine⟨.inr ⟨b,[],rfl,by simpa using hb,by simpa using hl⟩,λ k hk=>?_⟩
  simp only[iJ,List.mem_singleton] at hk
  subst hk
  exact hn.symm
 ·exact h.own o ho
theorem Qq{len:Nat}{parts:List (Nat×Operand)}{ps:List (Nat×Value)}{zc cs:List Value}{sz:Nat}(he:dW P t e zc)(hv:jV S parts=ps)(hlen:ps.length=len)(hidx:ps.map Prod.fst=List.range' 0 ps.length)(h1:(ps.all λ p=>Nat.beq (nK p.2).length zc.length)=true)
  (hpos:(Nat.blt 0 len&&Nat.blt 0 zc.length&&Nat.ble (len*zc.length) 16777216)=true) (hcs:C8 ps=cs) (hsz:cs.length=len*sz) :
  bG P S (SF w0 M H A F O) ⟨some d,.buildSlice t len ⟨parts⟩,ty,pos,af,gd⟩ Nat (λ b=>.slice (some ⟨b,0,none⟩) len len) (λ b=>SF w0 M H A F (⟨some ⟨b,0,none⟩,cs,len,e,sz⟩::O)) :=
 (jG λ _=>cN he hv hlen hidx h1 hpos hcs).conv λ b w h=>h.aCW hsz
end
end
end Go.Ct
namespace Go.Proofs.YtbajmaoegmbfgaaGreat
open Go.Proofs.Tryz (prog)
open Go Go.RowKit Go.Ct
section
theorem Vl(x y:AX)(acc:Int)(pn:Option Addr)(cn:Nat)(pc:Option Addr)(cc:Nat):(XS.new (L4 x y) [0,3,4] 1 acc pn cn pc cc).Ok:=by
 have hmem:∀v∈L4 x y,v=fK∨v=mZ ku [] [] 0 x∨v=mZ (y5 1) [] [] 1 y:=λ v hv=>by
  simp[L4] at hv
  exact hv
 refine⟨λ v hv=>?_,λ v hv=>?_,λ v hv=>?_,(λ v hv=>nomatch hv),(λ v hv=>nomatch hv),by show 2<=4;decide,by show 4<=_;decide,by show 3<=_;decide,Nat.zero_le _,Nat.le_refl _,Nat.le_refl _,Nat.le_refl _,Nat.le_refl _,Nat.zero_le _,λ v hv=>?_,by show(0:Int)<=1;decide,(λ i j _ hj=>absurd hj (Nat.not_lt_zero j)),(λ v hv=>nomatch hv)⟩
 ·rcases hmem v hv with rfl|rfl|rfl
  ·exact⟨rfl,rfl,by decide,by decide⟩
  ·exact Ma (by decide) (by decide)
  ·exact Ma (by decide) (by decide)
 ·have z:(0:Int)<=((4:Nat):Int):=by decide
  have z3:(0:Int)<=((3:Nat):Int):=by decide
  rcases hmem v hv with rfl|rfl|rfl
  ·exact⟨z,z,z,(λ r hr=>nomatch hr),z3,z3,z3,jN,jN⟩
  ·exact⟨z,z,z,(λ r hr=>nomatch hr),z3,by show(1:Int)<=((3:Nat):Int);decide,z3,jN,jN⟩
  ·exact⟨z,z,z,(λ r hr=>nomatch hr),by show(2:Int)<=((3:Nat):Int);decide,z3,z3,jN,jN⟩
 ·have hv':v=0∨v=3∨v=4:=by simpa[XS.new] using hv
  show v<=((4:Nat):Int)
  omega
 ·rcases hmem v hv with rfl|rfl|rfl<;>exact Nat.zero_le _
def kinds:List Int:=[8,8,8,9,9,10,11,12,7,8]
theorem dg{v:Nat}(h:v<10):7<=kinds.getD v 0/\kinds.getD v 0<=12:=by
 have:v=0∨v=1∨v=2∨v=3∨v=4∨v=5∨v=6∨v=7∨v=8∨v=9:=by omega
 rcases this with rfl|rfl|rfl|rfl|rfl|rfl|rfl|rfl|rfl|rfl<;>decide
theorem n6{v:Nat}(h:v<10):∃m:Nat,Ax.getD v 0=(m:Int)/\m<18446744073709551616:=by
 have:v=0∨v=1∨v=2∨v=3∨v=4∨v=5∨v=6∨v=7∨v=8∨v=9:=by omega
 refine⟨(Ax.getD v 0).toNat,?_⟩
 rcases this with rfl|rfl|rfl|rfl|rfl|rfl|rfl|rfl|rfl|rfl<;>decide
theorem C1.mono{m B C E B' C' E':Nat}{W:Wd}(h:C1 m B C E W)(hB:B<=B')(hC:C<=C')(hE:E<=E'):C1 m B' C' E' W:=by
 obtain⟨s1,s2,s3⟩:=h.sz
 exact⟨h.z,⟨by omega,by omega,by omega⟩,λ e he=>by have:=h.ex e he;exact⟨this.i,this.k,this.em,this.ht,this.ha,by have:=this.gl;omega⟩,h.t0,h.tr,h.tl,by have:=h.el;omega,h.wr⟩
section
variable{S:List (Nat×Value)}{w0 w:World}{M:List Nat}{H:List (Nat×Obj)}{A F:Fr}{O:List Ow}{ty:TypeId}{pos:String}{af:Array Edge}{gd:Option (Nat×Bool)}{X:Type}{V:X->Value}
theorem cT(nH nO:Nat){φ:X->Prop}{hs:List (Nat×Obj)}{os:List Ow}{hs' H1:X->List (Nat×Obj)}{os' O1:X->List Ow}{Fc F1:X->Fr}{A0:Fr}{f:FuncId}{xs:List Operand}{at_:Array TypeId}{vs:List Value}{dst:Option Nat}
  (hc:∀w,SF w (Ks hs os) hs A0 [] os w->Calls prog f ⟨vs⟩ w λ e w'=>∃x,e=.returned (V x)/\φ x/\SF w (Ks hs os) (hs' x) [] (Fc x) (os' x) w')
  (hA:bH A F (O.take nO) A0) (hF1:∀x,φ x->∀f∈F1 x,f.2=[]∨f∈Fc x++F)
  (ha:rP S xs=vs:=by(repeat (first|exact dF _|(apply cL;focus ((conv=>{lhs;whnf});try exact rfl))));first|done|fail) (hp:plain prog f=true:=by kernel_rfl)
  (hH:H=H.take nH++hs:=by exact rfl) (hO:O=O.take nO++os:=by exact rfl)
  (hH1:∀x,H.take nH++hs' x=H1 x:=by intro x;simp only[List.take_succ_cons,List.take_zero,List.cons_append,List.nil_append,wH];exact rfl) (hO1:∀x,O.take nO++os' x=O1 x:=by intro x;simp only[List.take_succ_cons,List.take_zero,List.cons_append,List.nil_append,wO];exact rfl) :
  bG prog S (SF w0 M H A F O) ⟨dst,.call {callee:=.value (.func f),args:=⟨xs⟩,argTypes:=at_},ty,pos,af,gd⟩ X V (λ x w=>φ x/\SF w0 M (H1 x) A (F1 x) (O1 x) w) :=
 iQ (oM hp ha) λ w hw=>(E1 (H':=H.take nH) (O':=O.take nO) hw ((List.Perm.of_eq hH).trans List.perm_append_comm) ((List.Perm.of_eq hO).trans List.perm_append_comm) hA (hc w)).mono λ _ _ ⟨x,he,hx,hs⟩=>⟨x,he,hx,by
  have h2:=(hs.perm (H':=H1 x) (O':=O1 x) (by rw[<- hH1 x];exact List.perm_append_comm) (by rw[<- hO1 x];exact List.perm_append_comm)).eX (hF1 x hx)
  exact h2⟩
end
theorem A3(l:List EX):(nL l).length=l.length:=by simp[nL]
theorem cp{es:List Nat}{k:Nat}(h:k<es.length):(wX es)[k]?=some (.pointer (some ⟨es.getD k 0,0,none⟩)):=by
 simp[wX,iU,h]
structure WY where
 i:Nat
 pos:Nat
 W:Wd
structure WYI(m:Nat)(y:WY):Prop where
 hi:y.i<=18
 ok:C1 m (8+134217920*y.i) (1048576+y.i) y.i y.W
theorem N9.I0{kind:Int}{ts:List dU}{q:Fv}(h:N9 kind ts q)(p:Int):N9 kind ts {q with I0:=p}:=⟨h.ky,h.mem,h.ro⟩
set_option maxRecDepth 100000 in
set_option maxHeartbeats 4000000 in
theorem iu{l:List Int}{a:Option Addr}{c:Nat}{w:World}(ha:Go.Ct.Cl w a (aH l))(hl:l.length<=17592186043904) :
  Calls prog 19 #[.slice a l.length c] w λ e w'=>∃q:Nat×Nat×Nat×Wd,e=.returned (.pointer (some ⟨q.1,0,none⟩))/\(q.2.2.1<18446744073709551616/\C1 q.2.2.1 2415922570 1048594 18 q.2.2.2)/\SF w [] (wH q.2.2.1 q.1 q.2.1 q.2.2.2) [] (aN q.2.2.2.z.L) (wO q.2.2.2) w':=by
 refine enter Tryz.func19 Tryz.ntmps19 rfl rfl (SF.s1 ha) ?_
 simp only[cG]
 refine Kc7 ?_;refine aE (U0 (Fc:=λ _=>[]) (Oc:=λ _=>[]) (hc:=λ w1 hw=>ny)) (λ x10 h10=>?_);refine J1 ?_;refine J0 ?_;refine aE (U0 (Fc:=λ _=>[]) (hc:=λ w1 hw=>mu w1)) (λ x11 h11=>?_);refine aB ?_;refine aE (vK (hc:=λ w1 hw=>aAH (hw.tape cS fin hl))) (λ x13 h13=>?_);refine bO ?_;refine bM (λ x15=>?_);refine zZ ?_;refine dI ?_;refine J3 ?_;refine aE (cM (hc:=λ w hs=>Qe hs)) (λ x21 h21=>?_);refine aP (Qq (sz:=2) (cs:=rT [⟨3,false⟩]) Fm Jh rfl rfl rfl rfl rfl rfl) (λ x22=>?_);refine Nw ?_;refine aV ?_;refine D8 ?_
 obtain⟨m,em,hm⟩:=n6 h13
 refine nT [5,6,7,8,25,26,27,28,29,30,31,32,33,34,35,36,37,38,39,40,41,42,43,44,45,46,47,48,49,50,51,52,53,54,55,56,57,58,59,60,61,62,63,64,65,66,67,68,69,70,71,72,73,74,75,76,77,78,79,80,81,82,83,84,85,86,87,88,89,90,91,92,93,94,95,96,97,98] (λ y:WY=>[(5,.int .i64 ((y.i:Nat):Int))]) (λ y=>WYI m y) (λ y=>(x10,E3 a l c y.pos)::(x15,lB x11.1 (m:Int) y.W.pt y.W.ts.length y.W.kt y.W.pe (nL y.W.ex).length y.W.ke)::(x11.1,xM y.W.z)::G4 x11.1 y.W.ex) (λ y=>aN y.W.z.L) (λ y=>⟨y.W.pt,rT y.W.ts,y.W.kt,29,2⟩::⟨y.W.pe,wX (nL y.W.ex),y.W.ke,74,1⟩::⟨y.W.z.pn,iI y.W.z.L,y.W.z.cn,47,14⟩::⟨y.W.z.pc,aH y.W.z.cs,y.W.z.cc,37,1⟩::Dd y.W.ex) (λ y=>18-y.i) (⟨0,lA l 0,⟨XS.new (L4 x21.1 x21.2.1) [0,3,4] 1 0 x21.2.1.pn x21.2.1.cn x21.2.2.1 x21.2.2.2,[⟨3,false⟩],some ⟨x22,0,none⟩,1,[],none,0⟩⟩) (⟨by show(0:Nat)<=18;decide,Vl _ _ _ _ _ _ _,⟨by show 4<=8+134217920*0;decide,by show 3<=8+134217920*0;decide,by show(1:Int)<=((8+134217920*0:Nat):Int);decide⟩,(λ e he=>nomatch he),by show 0<1;decide,rfl,by show 1<=5;decide,Nat.le_refl _,.new⟩) (λ y f hx=>?_) (hw0:=λ w hw=>by rw[em,List.append_nil] at hw;exact(hw.kA 74 1).perm (List.perm_append_comm (l₁:=[_]) (l₂:=[_,_])) (List.Perm.swap _ _ _))
 dsimp only[iC,List.map,List.cons_append,List.nil_append]
 have hy:=hx
 refine Kb6 ?_
 (refine eI 27 (λ g27=>?_) (λ g27=>?_)<;>refine Ka0 ?_)
 all_goals ((first|refine aJ ?_|(refine aF ?_;refine aE (vK (hc:=λ w1 hw=>yn (hw.tape cS fin hl))) (λ x29 h29=>?_)));refine cA ?_;refine aI ?_)
 all_goals
 refine bC (λ c30=>?_) (λ c30=>?_)
 ·try exact nv c30
  all_goals (refine rY ?_;refine J0 ?_;refine aP ((by exact I8 (λ _=>cN (cs:=aH kinds) Fq Jh rfl rfl rfl rfl rfl))) (λ x33=>?_);refine aB ?_;refine aE (vK (hc:=λ w1 hw=>eM 10 (hw.tape cS fin hl) (by decide) (by decide))) (λ x35 h35=>?_);refine aD (cP (lst:=kinds) (k:=x35) rf rf fZ fO (.new .head) (by omega) (by simp only[kinds,List.length_cons,List.length_nil];omega)) rfl ?_;refine aD (eC (lst:=kinds) (q:=x35) rf fO (.new .head) (by simp only[kinds,List.length_cons,List.length_nil];omega)) rfl ?_;refine iT ?_)
  all_goals
   refine eP [6,38,39,40,41,42,43,44] (λ q:Int×Nat=>[(6,.int .i64 q.1)]) (λ q=>7<=q.1/\q.1<=12) (λ q=>(x10,E3 a l c q.2)::(x15,lB x11.1 (m:Int) y.W.pt y.W.ts.length y.W.kt y.W.pe (nL y.W.ex).length y.W.ke)::(x11.1,xM y.W.z)::G4 x11.1 y.W.ex) (λ _=>aN y.W.z.L) (λ _=>⟨y.W.pt,rT y.W.ts,y.W.kt,29,2⟩::⟨y.W.pe,wX (nL y.W.ex),y.W.ke,74,1⟩::⟨y.W.z.pn,iI y.W.z.L,y.W.z.cn,47,14⟩::⟨y.W.z.pc,aH y.W.z.cs,y.W.z.cc,37,1⟩::Dd y.W.ex) (by decide) (λ _=>by exact rfl) ?_ (λ q f hx=>?_)
   ·refine aV ?_
    refine xK ?_;refine lF ?_;refine aB ?_
    (refine eI 40 (λ g40=>?_) (λ g40=>?_)<;>refine Ka0 ?_)
    all_goals ((first|refine aJ ?_|(refine aF ?_;refine aE (vK (hc:=λ w1 hw=>eM 3 (hw.tape cS fin hl) (by decide) (by decide))) (λ x42 h42=>?_)));refine Ka7 ?_)
    all_goals
    refine bC (λ c44=>?_) (λ c44=>?_)
    ·try exact nv c44
     all_goals (refine dR ?_;refine J1 ?_)
     all_goals
      refine fH ((8,lA l (lA l y.pos))) ?_ (hw1:=λ w hw=>hw.back (hF:=aX.iV λ f hf=>List.mem_cons_of_mem _ hf))
      ·exact⟨by show(7:Int)<=8;decide,by show(8:Int)<=12;decide⟩
    ·all_goals try (exfalso;omega)
     all_goals refine aZ ?_
     all_goals
      refine fH (by first|exact((λ _=>(kinds.getD x35 0,lA l (lA l y.pos))) x42)|exact(kinds.getD x35 0,lA l y.pos)) ?_ (hw1:=λ w hw=>hw.back (hF:=aX.iV λ f hf=>List.mem_cons_of_mem _ hf))
      ·exact dg (by omega)
   dsimp only[iC,List.map,List.cons_append,List.nil_append]
   have hq:=hx
  all_goals (refine Kc4 ?_;refine aE (cM (hs:=[(x10,E3 a l c q.2),(x15,lB x11.1 (m:Int) y.W.pt y.W.ts.length y.W.kt y.W.pe (nL y.W.ex).length y.W.ke)]) (os:=[⟨y.W.pt,rT y.W.ts,y.W.kt,29,2⟩]) (A0:=[(a,aH l)]) (hc:=λ w hs=>qp q.1 hq hl hy.ok.t0 (by have:=hy.ok.tl;omega) hy.ok.tr hs)) (λ x48 h48=>?_);refine aL (λ x7=>?_);refine J5 ?_;refine aV ?_)
  all_goals
   refine eP [49,50,51,52,53,54,55,56] (λ r:Int×Nat=>[]) (λ r=>True) (λ r=>(x7,.cells ⟨Rv (({x48 with I0:=r.1}:Fv).cl q.1 (m:Int))⟩ 89 (0,0))::(x10,E3 a l c r.2)::(x15,lB x11.1 (m:Int) y.W.pt y.W.ts.length y.W.kt y.W.pe (nL y.W.ex).length y.W.ke)::(x11.1,xM y.W.z)::G4 x11.1 y.W.ex) (λ _=>aN y.W.z.L) (λ _=>⟨y.W.pt,rT y.W.ts,y.W.kt,29,2⟩::⟨y.W.pe,wX (nL y.W.ex),y.W.ke,74,1⟩::⟨y.W.z.pn,iI y.W.z.L,y.W.z.cn,47,14⟩::⟨y.W.z.pc,aH y.W.z.cs,y.W.z.cc,37,1⟩::Dd y.W.ex) (by decide) (λ _=>by exact rfl) ?_ (λ r f hx=>?_)
   ·refine aV ?_
    refine xK ?_;refine lF ?_;refine aB ?_
    (refine eI 51 (λ g51=>?_) (λ g51=>?_)<;>refine Ka0 ?_)
    all_goals ((first|refine aJ ?_|(refine aF ?_;refine aE (vK (hc:=λ w1 hw=>eM 3 (hw.tape cS fin hl) (by decide) (by decide))) (λ x53 h53=>?_)));refine Ka7 ?_)
    all_goals
    refine bC (λ c55=>?_) (λ c55=>?_)
    ·try exact nv c55
     all_goals (refine dR ?_;refine vL ?_)
     all_goals
      refine fH ((0,lA l x48.pos)) ?_ (hw1:=λ w hw=>hw.v6)
      ·trivial
    ·all_goals try (exfalso;omega)
     all_goals refine aZ ?_
     all_goals
      refine fH (by first|exact((λ _=>(x48.I0,lA l x48.pos)) x53)|exact(x48.I0,x48.pos)) ?_ (hw1:=λ w hw=>hw.v6)
      ·trivial
   dsimp only[iC,List.map,List.cons_append,List.nil_append]
  all_goals refine E8 ?_
  all_goals
   refine eP [8,57,58,59,60,61,62,63,64,65,66,67,68,69] (λ s:Nat×Nat=>[(8,.int .i64 ((s.1:Nat):Int))]) (λ s=>s.1<=1048576) (λ s=>(x7,.cells ⟨Rv (({x48 with I0:=r.1}:Fv).cl q.1 (m:Int))⟩ 89 (0,0))::(x10,E3 a l c s.2)::(x15,lB x11.1 (m:Int) y.W.pt y.W.ts.length y.W.kt y.W.pe (nL y.W.ex).length y.W.ke)::(x11.1,xM y.W.z)::G4 x11.1 y.W.ex) (λ _=>aN y.W.z.L) (λ _=>⟨y.W.pt,rT y.W.ts,y.W.kt,29,2⟩::⟨y.W.pe,wX (nL y.W.ex),y.W.ke,74,1⟩::⟨y.W.z.pn,iI y.W.z.L,y.W.z.cn,47,14⟩::⟨y.W.z.pc,aH y.W.z.cs,y.W.z.cc,37,1⟩::Dd y.W.ex) (by decide) (λ _=>by exact rfl) ?_ (λ s f hx=>?_)
   ·refine aV ?_
    refine xK ?_;refine dI ?_;refine Rr ?_;refine Ca ?_
    (refine eI 63 (λ g63=>?_) (λ g63=>?_)<;>refine Ka0 ?_)
    all_goals ((first|refine aJ ?_|(refine aF ?_;refine aE (vK (hc:=λ w1 hw=>eM 4 (hw.tape cS fin hl) (by decide) (by decide))) (λ x65 h65=>?_)));refine uM ?_;refine aI ?_)
    all_goals
    refine bC (λ c67=>?_) (λ c67=>?_)
    ·try exact nv c67
     all_goals (refine xK ?_;refine aE (vK (hc:=λ w1 hw=>eM 16 (hw.tape cS fin hl) (by decide) (by decide))) (λ x69 h69=>?_);refine J1 ?_)
     all_goals
      refine fH ((x69,lA l (lA l r.2))) ?_ (hw1:=λ w hw=>hw.v6)
      ·show x69<=1048576;omega
    ·all_goals try (exfalso;omega)
     all_goals refine aZ ?_
     all_goals
      refine fH (by first|exact((λ _=>(1048576,lA l r.2)) x65)|exact(1048576,r.2)) ?_ (hw1:=λ w hw=>hw.v6)
      ·exact Nat.le_refl 1048576
   dsimp only[iC,List.map,List.cons_append,List.nil_append]
   have hs1:=hx
  all_goals (refine Kb3 ?_;refine aB ?_;refine aE (cT 2 0 (hs:=wH m x15 x11.1 y.W) (os:=wO y.W) (A0:=aN y.W.z.L) (F1:=λ x:Wd×List aQ=>aN x.1.z.L) (hc:=λ w hs=>r9 (q:={x48 with I0:=r.1}) (kind:=q.1) s.1 hs1 (by omega) (by omega) hm hy.ok (by omega) hq (h48.I0 _) (λ f hf=>hf) hs) (hA:=bH.of λ f hf=>.inr (.inr (.inl hf))) (hF1:=λ x hx f hf=>by rw[hx.2,dE] at hf;exact .inr ((List.mem_append.1 hf).elim (λ h=>List.mem_append_right _ h) (λ h=>List.mem_append_left _ h)))) (λ x73 h73=>?_);refine aI ?_)
  all_goals
   refine eP [74,75,76,77,78,79,80,81,82,83,84,85,86,87,88,89,90,91,92,93,94,95,96,97,98] (λ u:Nat×Wd=>[]) (λ u=>C1 m (8+134217920*(y.i+1)) (1048576+(y.i+1)) (y.i+1) u.2) (λ u=>(x7,.cells ⟨Rv (({x48 with I0:=r.1}:Fv).cl q.1 (m:Int))⟩ 89 (0,0))::(x10,E3 a l c u.1)::(x15,lB x11.1 (m:Int) u.2.pt u.2.ts.length u.2.kt u.2.pe (nL u.2.ex).length u.2.ke)::(x11.1,xM u.2.z)::G4 x11.1 u.2.ex) (λ u=>aN u.2.z.L) (λ u=>⟨u.2.pt,rT u.2.ts,u.2.kt,29,2⟩::⟨u.2.pe,wX (nL u.2.ex),u.2.ke,74,1⟩::⟨u.2.z.pn,iI u.2.z.L,u.2.z.cn,47,14⟩::⟨u.2.z.pc,aH u.2.z.cs,u.2.z.cc,37,1⟩::Dd u.2.ex) (by decide) (λ _=>by exact rfl) ?_ (λ u f hx=>?_)
   ·refine aV ?_
    refine xK ?_;refine dI ?_;refine Rr ?_;refine Dv ?_;refine aB ?_
    (refine eI 80 (λ g80=>?_) (λ g80=>?_)<;>refine Ka0 ?_)
    all_goals ((first|refine aJ ?_|(refine aF ?_;refine aE (vK (hc:=λ w1 hw=>eM 3 (hw.tape cS fin hl) (by decide) (by decide))) (λ x82 h82=>?_)));refine uM ?_;refine aI ?_)
    all_goals
    refine bC (λ c84=>?_) (λ c84=>?_)
    ·try exact nv c84
     all_goals (refine eH [(0,[]),(1,[]),(2,[]),(3,[]),(4,[]),(5,[]),(6,[]),(7,[]),(8,[]),(9,[]),(10,[3]),(11,[]),(12,[]),(13,[])] ?_;refine Zx ?_;refine Zg ?_;refine oE ?_;refine bE (i:=10) (hq:=(vK (hc:=λ w1 hw=>eM ((nL x73.1.ex).length:Nat) (hw.tape cS fin hl) (by omega) (by rw[A3];have:=h73.1.el;omega)))) (h:=λ x95 h95=>?_);refine bU (i:=11) (hq:=(jd (cs:=wX (nL x73.1.ex)) (k:=x95) rf rf fZ fO (.own (.tail .head)) (by omega) (by rw[zV];omega))) (h:=?_);refine bU (i:=12) (hq:=(aw (cs:=wX (nL x73.1.ex)) (v:=.pointer (some ⟨(nL x73.1.ex).getD x95 0,0,none⟩)) rf fO (.own (.tail .head)) (cp (by omega)))) (h:=?_);refine bE (i:=13) (hq:=(cT 2 0 (hs:=wH m x15 x11.1 x73.1) (os:=wO x73.1) (A0:=aN x73.1.z.L) (F1:=λ x:Wd×List aQ=>aN x.1.z.L) (hc:=λ w hs=>de (i:=x95) (by rw[<- A3];omega) (by omega) (by omega) hm h73.1 (λ f hf=>hf) hs) (hA:=bH.of λ f hf=>.inr (.inr (.inl hf))) (hF1:=λ x hx f hf=>by rw[hx.2.2,dE] at hf;exact .inr ((List.mem_append.1 hf).elim (λ h=>List.mem_append_right _ h) (λ h=>List.mem_append_left _ h))))) (h:=λ x98 h98=>?_);refine eL ?_)
     all_goals
      refine fH ((lA l (lA l s.2),x98.1)) ?_ (hw1:=λ w hw=>hw.v6)
      ·exact h98.1.mono (by omega) (by omega) (Nat.le_refl _)
    ·all_goals try (exfalso;omega)
     all_goals refine aZ ?_
     all_goals
      refine fH (by first|exact((λ _=>(lA l s.2,x73.1)) x82)|exact(s.2,x73.1)) ?_ (hw1:=λ w hw=>hw.v6)
      ·exact h73.1.mono (by omega) (by omega) (Nat.le_refl _)
   dsimp only[iC,List.map,List.cons_append,List.nil_append]
  all_goals (refine Ka8 ?_)
  all_goals
   refine iO (⟨y.i+1,u.1,u.2⟩) ?_ (hw1:=λ w hw=>hw.v6)
   ·exact⟨by show y.i+1<=18;omega,hx⟩
 ·all_goals try (exfalso;omega)
  all_goals (refine bT rfl ?_;refine Ka5 ?_)
  all_goals
   refine aT Tryz.results19 (λ w hw=>?_)
   exact⟨(x15,x11.1,m,y.W),rfl,⟨hm,hy.ok.mono (by have:=hy.hi;omega) (by have:=hy.hi;omega) hy.hi⟩,hw.aY (hH:=List.Sublist.cons _ (List.Sublist.refl _)) (hF:=by exact aX.all) (hO:=List.Sublist.refl _)⟩
end
section
def Ru(ex:List EX)(i:Nat):Bool:=(ex.map EX.dn).getD i true
def rE(ex:List EX)(i:Nat):Tr:=(ex.map EX.R).getD i .stuck
section
variable{m B C E bw bm:Nat}{D:List Nat}{A:Fr}{w:World}{H:ByteArray->Nat}
theorem zK{α β:Type}(f:α->β)(l1 l2:List α)(e:α)(d:β):((l1++e::l2).map f).getD l1.length d=f e:=by simp
theorem xv{α β:Type}(f:α->β)(l1 l2:List α)(e e':α)(d:β){k:Nat}(hk:k≠l1.length):((l1++e::l2).map f).getD k d=((l1++e'::l2).map f).getD k d:=by
 simp only[List.map_append,List.map_cons,iU]
 by_cases h:k<l1.length
 ·rw[List.getElem?_append_left (by simpa using h),List.getElem?_append_left (by simpa using h)]
 ·rw[List.getElem?_append_right (by simpa using h),List.getElem?_append_right (by simpa using h)]
  obtain⟨j,hj⟩:∃j,k-(l1.map f).length=j+1:=⟨k-l1.length-1,by rw[List.length_map];omega⟩
  rw[hj]
  rfl
theorem mx{W:Wd}{i:Nat}(hi:i<W.ex.length)(hs:SF w D (wH m bw bm W) A [] (wO W) w) :
  Calls prog 69 #[.pointer (some ⟨(nL W.ex).getD i 0,0,none⟩)] w λ e w'=>∃q:Unit,e=.returned (.bool (Ru W.ex i))/\True/\SF w D (wH m bw bm W) [] [] (wO W) w':=by
 obtain⟨l1,e,l2,hl,hi1⟩:=Fj hi
 have hb:(nL W.ex).getD i 0=e.b:=by rw[hl,<- hi1];exact zK _ _ _ _ _
 have hd:Ru W.ex i=e.dn:=by unfold Ru;rw[hl,<- hi1];exact zK _ _ _ _ _
 rw[hb,hd]
 have pH:=aAZ (m:=m) (bw:=bw) (bm:=bm) hl
 have pO:=aAM hl
 have key:=E1 (P:=prog) (f:=69) (vs := #[.pointer (some ⟨e.b,0,none⟩)]) (V:=λ _:Unit=>.bool e.dn) (φ:=λ _=>True) (hs:=xH e.k e.b bm (XS.wm e.x W.z) e.dn e.rs) (os:=xW (XS.wm e.x W.z)) (hs':=λ _=>xH e.k e.b bm (XS.wm e.x W.z) e.dn e.rs) (os':=λ _=>xW (XS.wm e.x W.z)) (Fc:=λ _=>[]) (A0:=[]) hs pH pO bH.nil (λ h=>Rz h)
 refine key.mono λ e w' ⟨q,e1,h1,hw⟩=>⟨q,e1,h1,?_⟩
 rw[List.append_nil] at hw
 exact hw.noA.perm pH pO
structure FX where
 i:Nat
 c:Nat
 z:XS
 ex:List EX
 N:List aQ
structure o5(m B C E:Nat)(W:Wd)(y:FX):Prop where
 ok:C1 m (B+128*(8001*y.i+y.c)) (C+(8001*y.i+y.c)) E (W.go y.z y.ex)
 L:y.z.L=W.z.L++y.N
 b:nL y.ex=nL W.ex
 dn:∀k,k<y.i->Ru y.ex k=true
structure xw(m B C E:Nat)(W:Wd)(y:FX):Prop extends o5 m B C E W y where
 lt:y.i<y.ex.length
 c:y.c<=8000
 fin:Ru y.ex y.i=true∨Fin (H8 m) (rE y.ex y.i) y.z.mm (8000-y.c)
theorem o5.len{W:Wd}{y:FX}(h:o5 m B C E W y):y.ex.length=W.ex.length:=by
 have:=congrArg List.length h.b
 simpa[nL] using this
theorem o5.begin{W:Wd}{y:FX}(h:o5 m B C E W y)(hc:y.c=0)(hi:y.i<y.ex.length):xw m B C E W y:=by
 refine⟨h,hi,by omega,.inr ?_⟩
 obtain⟨l1,e,l2,hl,hi1⟩:=Fj hi
 have hR:rE y.ex y.i=e.R:=by unfold rE;rw[hl,<- hi1];exact zK _ _ _ _ _
 have w1:WR (H8 m) m y.z.mm W.ts (y.ex.map EX.R):=h.ok.wr
 rw[hl,List.map_append,List.map_cons] at w1
 rw[hR,hc]
 exact(w1.perm List.perm_middle).fin
theorem xw.step{W:Wd}{y:FX}{q:XS×List EX×List aQ}(h:xw m B C E W y)(hd:Ru y.ex y.i=false)
  (hq:C1 m (B+128*(8001*y.i+y.c)+128) (C+(8001*y.i+y.c)+1) E ((W.go y.z y.ex).go q.1 q.2.1)/\q.1.L=(W.go y.z y.ex).z.L++q.2.2/\StX (W.go y.z y.ex) y.i q.1 q.2.1):xw m B C E W ⟨y.i,y.c+1,q.1,q.2.1,y.N++q.2.2⟩:=by
 obtain⟨ok,hL,l1,e,e',l2,hl,hi1,hl',hb,hst⟩:=hq
 have hl:y.ex=l1++e::l2:=hl
 have e1:Ru y.ex y.i=e.dn:=by unfold Ru;rw[hl,<- hi1];exact zK _ _ _ _ _
 have e2:rE y.ex y.i=e.R:=by unfold rE;rw[hl,<- hi1];exact zK _ _ _ _ _
 have e3:Ru q.2.1 y.i=e'.dn:=by unfold Ru;rw[hl',<- hi1];exact zK _ _ _ _ _
 have e4:rE q.2.1 y.i=e'.R:=by unfold rE;rw[hl',<- hi1];exact zK _ _ _ _ _
 have hfin:=h.fin.resolve_left (by rw[hd];decide)
 rw[e2] at hfin
 rw[e1] at hd
 have he:EOk m (C+(8001*y.i+y.c)) y.z e:=h.ok.ex e (by show e∈y.ex;rw[hl];simp)
 have hacc:e.R.acc=some (XS.wm e.x y.z).nx:=by
  rcases he.i.Z0 with⟨h1,_⟩|⟨_,h1⟩
  ·rw[hd] at h1;cases h1
  ·exact h1
 have hpos:=hfin.pos hacc
 rcases hst with⟨h1,_⟩|⟨_,j,hj,hj1,hrc⟩
 ·rw[hd] at h1;cases h1
 refine⟨⟨ok.mono (by show _<=B+128*(8001*y.i+(y.c+1));omega) (by show _<=C+(8001*y.i+(y.c+1));omega) (Nat.le_refl _),by rw[hL];show y.z.L++q.2.2=_;rw[h.L,List.append_assoc],?_,λ k hk=>?_⟩,?_,by show y.c+1<=8000;omega,?_⟩
 ·show nL q.2.1=_
  rw[<- h.b,hl',hl]
  simp[nL,hb]
 ·have hk:k<y.i:=hk
  have:=h.dn k hk
  show Ru q.2.1 k=true
  unfold Ru at this ⊢
  rw[hl',xv EX.dn l1 l2 e' e true (by omega),<- hl]
  exact this
 ·show y.i<q.2.1.length
  rw[hl',<- hi1]
  simp
 ·show Ru q.2.1 y.i=true∨Fin (H8 m) (rE q.2.1 y.i) q.1.mm (8000-(y.c+1))
  rw[e3,e4]
  cases hdn:e'.dn with
  | true=>exact .inl rfl
  | false =>
   obtain⟨m',em,hf⟩:=hfin.rc hrc
   rw[hj1 hdn] at em
   exact .inr (by rw[show 8000-(y.c+1)=m' by omega];exact hf)
theorem xw.next{W:Wd}{y:FX}(h:xw m B C E W y)(hd:Ru y.ex y.i=true):o5 m B C E W ⟨y.i+1,0,y.z,y.ex,y.N⟩ :=
 ⟨h.ok.mono (by have:=h.c;show _<=B+128*(8001*(y.i+1)+0);omega) (by have:=h.c;show _<=C+(8001*(y.i+1)+0);omega) (Nat.le_refl _),h.L,h.b,λ k hk=>by
  by_cases e:k=y.i
  ·rw[e];exact hd
  ·exact h.dn k (by have:k<y.i+1:=hk;omega)⟩
theorem WR.Wv{s:Mm}{ts:List dU}:∀{rs:List Tr},WR H m s ts rs->(∀t∈rs,∃r,t=.done r)->WR H m s ts []
 | [],h,_=>h
 | t::rs,h,hd=>by
  obtain⟨r,e⟩:=hd t (List.mem_cons_self ..)
  subst e
  exact WR.Wv h.drop λ t ht=>hd t (List.mem_cons_of_mem _ ht)
theorem o5.end{W:Wd}{y:FX}(h:o5 m B C E W y)(hi:y.ex.length<=y.i)(hiE:y.i<=E)(hc:y.c=0):C1 m (B+1024128*E) (C+8001*E) 0 ⟨y.z,W.ts,W.pt,W.kt,[],none,0⟩:=by
 have ok:=h.ok.mono (B':=B+1024128*E) (C':=C+8001*E) (by rw[hc];omega) (by rw[hc];omega) (Nat.le_refl _)
 refine⟨ok.z,ok.sz,(λ e he=>nomatch he),ok.t0,ok.tr,ok.tl,Nat.le_refl _,WR.Wv ok.wr λ t ht=>?_⟩
 obtain⟨e,he,rfl⟩:=List.mem_map.1 ht
 have hk:=ok.ex e he
 obtain⟨k,hk1,hk2⟩:=List.getElem_of_mem he
 have hd:Ru y.ex k=true:=h.dn k (by have:k<y.ex.length:=hk1;omega)
 have hd2:e.dn=true:=by
  unfold Ru at hd
  rw[iU,List.getElem?_map,List.getElem?_eq_getElem hk1] at hd
  rw[<- hk2];exact hd
 rcases hk.i.Z0 with⟨_,h2⟩|⟨h1,_⟩
 ·exact⟨e.rs,h2⟩
 ·rw[hd2] at h1;cases h1
set_option maxRecDepth 100000 in
set_option maxHeartbeats 2000000 in
theorem l8{W:Wd}(hE:E<=1000)(hC:C<=100000000)(hB:B<=10000000000)(hm:m<18446744073709551616)(hW:C1 m B C E W)(hA:∀f∈aN W.z.L,f∈A)(hs:SF w D (wH m bw bm W) A [] (wO W) w) :
  Calls prog 20 #[.pointer (some ⟨bw,0,none⟩)] w λ e w'=>∃r:XS×List aQ,e=.returned (.tuple #[])/\(C1 m (B+1024128*E) (C+8001*E) 0 ⟨r.1,W.ts,W.pt,W.kt,[],none,0⟩/\r.1.L=W.z.L++r.2)/\SF w D (wH m bw bm ⟨r.1,W.ts,W.pt,W.kt,[],none,0⟩) [] (aN r.2) (wO ⟨r.1,W.ts,W.pt,W.kt,[],none,0⟩) w':=by
 have hel:=hW.el
 have hbl:=A3 W.ex
 refine enter Tryz.func20 Tryz.ntmps20 rfl rfl hs ?_
 simp only[cG]
 refine aV ?_;refine mK ?_;refine dS ?_;refine Lk ?_;refine cW ?_
 refine nT [3,9,10,11,12,13,14,15,16,17,18] (λ y:FX=>[(9,.int .i64 ((y.i:Nat):Int))]) (λ y=>o5 m B C E W y/\y.i<=E/\y.c=0) (λ y=>wH m bw bm (W.go y.z y.ex)) (λ y=>aN y.N) (λ y=>wO (W.go y.z y.ex)) (λ y=>W.ex.length-y.i) (⟨0,0,W.z,W.ex,[]⟩) (⟨⟨hW,by simp,rfl,λ k hk=>absurd hk (Nat.not_lt_zero k)⟩,Nat.zero_le _,rfl⟩) (λ y f hx=>?_)
 dsimp only[iC,List.map,List.cons_append,List.nil_append]
 obtain⟨hy,hyE,hyc⟩:=hx
 have hlen:=hy.len
 refine J0 ?_;refine Bi ?_;refine aV ?_
 refine bC (λ c10=>?_) (λ c10=>?_)
 ·try (exfalso;omega)
  refine rY ?_;refine J0 ?_;refine aD (jd (cs:=wX (nL y.ex)) (k:=y.i) rf rf fZ fO (.own (.tail .head)) (by omega) (by rw[zV,A3,hy.len];omega)) rfl ?_;refine aD (aw (cs:=wX (nL y.ex)) (v:=.pointer (some ⟨(nL y.ex).getD y.i 0,0,none⟩)) rf fO (.own (.tail .head)) (cp (by rw[A3,hy.len];omega))) rfl ?_;refine J1 ?_;refine cW ?_
  refine nT [13,14,15,16,17] (λ z:FX=>[]) (λ z=>xw m B C E W z/\z.i=y.i) (λ z=>wH m bw bm (W.go z.z z.ex)) (λ z=>aN z.N) (λ z=>wO (W.go z.z z.ex)) (λ z=>8001-z.c) (y) (⟨hy.begin hyc (by omega),rfl⟩) (λ z f hx=>?_) (hw0:=λ w hw=>hw.v6)
  dsimp only[iC,List.map,List.cons_append,List.nil_append]
  obtain⟨hz,hzi⟩:=hx
  have hzc:=hz.c
  have hyi:y.i<W.ex.length:=by omega
  have hzl:=hz.len
  refine kT ?_;refine aE (cT 0 0 (vs:=[.pointer (some ⟨(nL y.ex).getD y.i 0,0,none⟩)]) (hs:=wH m bw bm (W.go z.z z.ex)) (os:=wO (W.go z.z z.ex)) (A0:=[]) (F1:=λ _:Unit=>aN z.N) (hc:=λ w hs=>by rw[show y.i=z.i from hzi.symm,show nL y.ex=nL z.ex from hy.b.trans hz.b.symm];exact mx (W:=W.go z.z z.ex) (i:=z.i) hz.lt hs) (hA:=bH.nil) (hF1:=λ _ _ f hf=>.inr (List.mem_append_right _ hf))) (λ x14 h14=>?_);refine pE ?_
  refine bC (λ c15=>?_) (λ c15=>?_)
  ·try (exfalso;omega)
   refine aZ ?_;refine cW ?_;refine xK ?_;refine aE (cT 0 0 (vs:=[.pointer (some ⟨(nL y.ex).getD y.i 0,0,none⟩)]) (hs:=wH m bw bm (W.go z.z z.ex)) (os:=wO (W.go z.z z.ex)) (A0:=aN z.z.L) (F1:=λ x:XS×List EX×List aQ=>aN (z.N++x.2.2)) (hc:=λ w hs=>by rw[show y.i=z.i from hzi.symm,show nL y.ex=nL z.ex from hy.b.trans hz.b.symm];exact Oq (W:=W.go z.z z.ex) (i:=z.i) hz.lt (by omega) (by omega) hm hz.ok (λ f hf=>hf) hs) (hA:=bH.of λ f hf=>by rw[hz.L,dE] at hf;exact(List.mem_append.1 hf).elim (λ h=>.inr (.inl (hA f h))) (λ h=>.inr (.inr (.inl h)))) (hF1:=λ x hx f hf=>by rw[dE] at hf;exact .inr ((List.mem_append.1 hf).elim (λ h=>List.mem_append_right _ h) (λ h=>List.mem_append_left _ h)))) (λ x17 h17=>?_);refine aI ?_;refine fG ?_
   refine iO (⟨z.i,z.c+1,x17.1,x17.2.1,z.N++x17.2.2⟩) ?_ (hw1:=λ w hw=>hw.v6)
   ·exact⟨hz.step (by simpa using c15) h17,hzi⟩
  ·try (exfalso;omega)
   have hzn:=hz.next (by simpa using c15)
   refine Yn ?_;refine oq ?_;refine Lk ?_
   refine iO (⟨y.i+1,0,z.z,z.ex,z.N⟩) ?_ (hw1:=λ w hw=>hw.v6)
   ·exact⟨by rw[hzi] at hzn;exact hzn,by show y.i+1<=E;omega,rfl⟩
 ·try (exfalso;omega)
  refine bT rfl ?_;refine xK ?_;refine Nw ?_
  refine B6 Tryz.results20 (λ w hw=>?_)
  have hw:=(hw.kA 74 1).perm (List.Perm.refl _) (List.Perm.swap _ _ _)
  exact⟨(y.z,y.N),rfl,⟨hy.end (by rw[hy.len];omega) hyE hyc,hy.L⟩,hw.aY (hH:=by exact .cons_cons _ (.cons_cons _ (List.nil_sublist _))) (hF:=by exact aX.all) (hO:=by exact .cons_cons _ (.cons_cons _ (.cons _ (.cons_cons _ (.cons_cons _ (List.nil_sublist _))))))⟩
end
end
end Go.Proofs.YtbajmaoegmbfgaaGreat
namespace Go.Ct
open Go Go.RowKit
section
theorem rU.Jl{L:List aQ}{cs:List Int}{pn pc:Option Addr}{w w0:World}{M:List Nat}{H:List (Nat×Obj)}{F:Fr}{O:List Ow}(h:rU w0 L cs pn pc)(hw:SF w0 M H ((pn,iI L)::(pc,aH cs)::aN L) F O w):rU w L cs pn pc:=hw.Jj (.inr (.inl (.head _))) (.inr (.inl (.tail _ (.head _)))) (λ f hf=>.inr (.inl (.tail _ (.tail _ hf)))) h.fit
theorem cZ(L:List aQ)(r:Int):bA (L.map aQ.c) r=(aC L r).c:=(qX L r).symm
end
end Go.Ct
namespace Go.Proofs.YtbajmaoegmbfgaaGreat
open Go.Proofs.Tryz (prog)
open Go Go.RowKit Go.Ct
section
section
variable{L:List aQ}{cs:List Int}{gen:Int}{pn pc:Option Addr}{cn cc:Nat}{w:World}
abbrev Lm(L:List aQ)(cs:List Int)(gen:Int)(pn:Option Addr)(cn:Nat)(pc:Option Addr)(cc:Nat):Value:=.agg ⟨[.slice pn L.length cn,.slice pc cs.length cc,.int .i64 gen]⟩
structure StB(L:List aQ)(cs:List Int):Prop where
 cs:∀c,aS cs c<=9223372036854775807
 bK:∀r,(aC L r).nd.bK<=9223372036854775807
 new:∀r,(aC L r).nd.new<=9223372036854775807
 main:∀r,(aC L r).nd.main<=9223372036854775807
 prev:∀r,(aC L r).nd.prev<=9223372036854775807
 status:∀r,(aC L r).nd.status<=9223372036854775807
 br:∀r,∀b∈(aC L r).xs,b<=9223372036854775807
end
end
section
section
variable{L:List aQ}{cs:List Int}{gen:Int}{pn pc:Option Addr}{cn cc:Nat}{w:World}
theorem ze(h:rU w L cs pn pc)(r:Int)(hr:r<1):Calls prog 91 #[Lm L cs gen pn cn pc cc,.int .i64 r] w λ e w'=>e=.returned (aC L r).nd.v/\St w [] [] w':=by
 refine enter Tryz.func91 Tryz.ntmps91 rfl rfl h.start ?_
 simp only[cG]
 refine J0 ?_;refine bM (λ x2=>?_);refine aL (λ x4=>?_);refine aI ?_;refine Kb6 ?_
 (refine eI 7 (λ g7=>?_) (λ g7=>?_)<;>(try (exfalso;omega))<;>(refine aJ ?_))
 refine Ts ?_;refine Ka7 ?_
 refine bC (λ c13=>?_) (λ c13=>?_)
 ·try (exfalso;omega)
  refine Kb8 ?_
  refine bD Tryz.results91 (λ w hw=>?_)
  exact⟨by rw[pW (by omega)];rfl,hw.done⟩
 ·exact nv c13
theorem zb(h:rU w L cs pn pc){k:Nat}(hk:(k:Int)<9223372036854775807)(hl:L.length<=274877906944):Calls prog 91 #[Lm L cs gen pn cn pc cc,.int .i64 ((k+1:Nat):Int)] w λ e w'=>e=.returned (aC L ((k+1:Nat):Int)).nd.v/\St w [] [] w':=by
 refine enter Tryz.func91 Tryz.ntmps91 rfl rfl h.start ?_
 simp only[cG]
 refine J0 ?_;refine bM (λ x2=>?_);refine aL (λ x4=>?_);refine aI ?_;refine Kb6 ?_
 (refine Ka3 ?_)
 refine Ts ?_;refine Ka7 ?_
 refine bC (λ c13=>?_) (λ c13=>?_)
 ·try (exfalso;omega)
  refine Kb8 ?_
  refine bD Tryz.results91 (λ w hw=>?_)
  (exact⟨by rw[pW (by omega)];rfl,hw.done⟩)
 ·try (exfalso;omega)
  refine aZ ?_;refine Kb9 ?_;refine qW ?_;refine Rw ?_;refine J5 ?_
  refine bD Tryz.results91 (λ w hw=>?_)
  (exact⟨by rw[sE (by omega)];rfl,hw.done⟩)
theorem qC(h:rU w L cs pn pc)(r:Int)(hr:r<=9223372036854775807)(hl:L.length<=274877906944):Calls prog 91 #[Lm L cs gen pn cn pc cc,.int .i64 r] w λ e w'=>e=.returned (aC L r).nd.v/\St w [] [] w':=by
 rcases Int.lt_or_le r 1 with h1|h1
 ·exact ze h r h1
 ·obtain⟨k,rfl⟩:∃k:Nat,r=((k+1:Nat):Int):=⟨(r-1).toNat,by omega⟩
  exact zb h (by omega) hl
theorem Z8(h:rU w L cs pn pc)(r:Int)(hr:r<1):Calls prog 90 #[Lm L cs gen pn cn pc cc,.int .i64 r] w λ e w'=>e=.returned (.int .i64 (aS cs r))/\St w [] [] w':=by
 refine enter Tryz.func90 Tryz.ntmps90 rfl rfl h.start ?_
 simp only[cG]
 refine J0 ?_;refine bM (λ x2=>?_);refine Kc2 ?_;refine Ca ?_
 (refine eI 7 (λ g7=>?_) (λ g7=>?_)<;>(try (exfalso;omega))<;>(refine aJ ?_))
 refine Ts ?_;refine Ka7 ?_
 refine bC (λ c13=>?_) (λ c13=>?_)
 ·try (exfalso;omega)
  refine dA ?_
  refine aT Tryz.results90 (λ w hw=>?_)
  exact⟨by rw[sK (by omega)];rfl,hw.done⟩
 ·exact nv c13
theorem mi(h:rU w L cs pn pc){k:Nat}(hk:(k:Int)<9223372036854775807)(hl:cs.length<=274877906944):Calls prog 90 #[Lm L cs gen pn cn pc cc,.int .i64 ((k+1:Nat):Int)] w λ e w'=>e=.returned (.int .i64 (aS cs ((k+1:Nat):Int)))/\St w [] [] w':=by
 refine enter Tryz.func90 Tryz.ntmps90 rfl rfl h.start ?_
 simp only[cG]
 refine J0 ?_;refine bM (λ x2=>?_);refine Kc2 ?_;refine Ca ?_
 (refine Ka3 ?_)
 refine Ts ?_;refine Ka7 ?_
 refine bC (λ c13=>?_) (λ c13=>?_)
 ·try (exfalso;omega)
  refine dA ?_
  refine aT Tryz.results90 (λ w hw=>?_)
  (exact⟨by rw[sK (by omega)];rfl,hw.done⟩)
 ·try (exfalso;omega)
  refine aZ ?_;refine Kb9 ?_;refine qW ?_;refine Rw ?_;refine J1 ?_
  refine aT Tryz.results90 (λ w hw=>?_)
  (exact⟨by rw[Ge (by omega)];rfl,hw.done⟩)
theorem Et(h:rU w L cs pn pc)(r:Int)(hr:r<=9223372036854775807)(hl:cs.length<=274877906944):Calls prog 90 #[Lm L cs gen pn cn pc cc,.int .i64 r] w λ e w'=>e=.returned (.int .i64 (aS cs r))/\St w [] [] w':=by
 rcases Int.lt_or_le r 1 with h1|h1
 ·exact Z8 h r h1
 ·obtain⟨k,rfl⟩:∃k:Nat,r=((k+1:Nat):Int):=⟨(r-1).toNat,by omega⟩
  exact mi h (by omega) hl
theorem Vr(h:rU w L cs pn pc)(hb:StB L cs)(hl:L.length<=274877906944)(hc:cs.length<=274877906944)(i:Int)(hi:i<=9223372036854775807):Calls prog 83 #[Lm L cs gen pn cn pc cc,.int .i64 i] w λ e w'=>e=.returned (.tuple #[.int .i64 ((gN (L.map aQ.c) cs i).getD 0),.bool (gN (L.map aQ.c) cs i).isSome])/\St w [] [] w':=by
 refine enter Tryz.func83 Tryz.ntmps83 rfl rfl h.start ?_
 simp only[cG]
 simp only[Lm]
 refine J0 ?_;refine bM (λ x2=>?_);refine J8 ?_;refine aV ?_;refine D9 ?_;refine aP (cV (hc:=λ w1 hw=>qC (h.Jl hw) i hi hl)) (λ x10=>?_);refine cB ?_;refine Kc9 ?_
 refine bC (λ c12=>?_) (λ c12=>?_)
 ·refine Ov ?_
  refine bD Tryz.results83 (λ w hw=>?_)
  refine⟨?_,hw.done⟩
  unfold gN yU oU wD
  simp only[cZ,bV,aQ.c,Nd.c]
  simp_all
  rfl
 ·refine kZ ?_;refine eH [(0,[]),(1,[]),(2,[]),(3,[0]),(4,[]),(5,[]),(6,[])] ?_;refine bS ?_;refine bS ?_;refine aR ?_;refine dC (i:=3) (hq:=(cV (hc:=λ w1 hw=>qC (h.Jl hw) i hi hl))) (h:=λ x16=>?_);refine oA ?_;refine dC (i:=5) (hq:=(cV (hc:=λ w1 hw=>Et (h.Jl hw) (aC L i).nd.main (hb.main i) hc))) (h:=λ x18=>?_);refine J7 ?_;refine aV ?_;refine D9 ?_;refine aP (cV (hc:=λ w1 hw=>qC (h.Jl hw) (aS cs (aC L i).nd.main) (hb.cs _) hl)) (λ x21=>?_);refine aE (c0 (V:=.bool) (hc:=λ w1 hw=>xR _ w1)) (λ x22 h22=>?_);refine pE ?_
  refine bC (λ c23=>?_) (λ c23=>?_)
  ·refine Ov ?_
   refine bD Tryz.results83 (λ w hw=>?_)
   refine⟨?_,hw.done⟩
   unfold gN yU oU wD
   simp only[cZ,bV,aQ.c,Nd.c]
   simp_all
   rfl
  ·refine kZ ?_;refine eH [(0,[]),(1,[]),(2,[]),(3,[0]),(4,[]),(5,[]),(6,[])] ?_;refine bS ?_;refine bS ?_;refine aR ?_;refine dC (i:=3) (hq:=(cV (hc:=λ w1 hw=>qC (h.Jl hw) (aS cs (aC L i).nd.main) (hb.cs _) hl))) (h:=λ x27=>?_);refine oA ?_;refine dC (i:=5) (hq:=(cV (hc:=λ w1 hw=>Et (h.Jl hw) (aC L (aS cs (aC L i).nd.main)).nd.prev (hb.prev _) hc))) (h:=λ x29=>?_);refine J7 ?_;refine D2 ?_;refine J2 ?_;refine Rt ?_
   refine bC (λ c30=>?_) (λ c30=>?_)
   ·refine J2 ?_;refine J8 ?_
    refine bD Tryz.results83 (λ w hw=>?_)
    refine⟨?_,hw.done⟩
    unfold gN yU oU wD
    simp only[cZ,bV,aQ.c,Nd.c]
    simp_all
    rfl
   ·refine D9 ?_;refine aP (cV (hc:=λ w1 hw=>qC (h.Jl hw) (aS cs (aC L (aS cs (aC L i).nd.main)).nd.prev) (hb.cs _) hl)) (λ x37=>?_);refine cB ?_;refine Rt ?_
    refine bC (λ c34=>?_) (λ c34=>?_)
    ·refine dR ?_;refine bQ ?_;refine aB ?_;refine aP (cV (hc:=λ w1 hw=>qC (h.Jl hw) (aS cs (aC L (aS cs (aC L i).nd.main)).nd.prev) (hb.cs _) hl)) (λ x42=>?_);refine cB ?_;refine J1 ?_;refine fG ?_;refine aV ?_;refine D9 ?_;refine aP (cV (hc:=λ w1 hw=>qC (h.Jl hw) _ (by exact hb.bK _) hl)) (λ x46=>?_);refine aE (c0 (V:=.bool) (hc:=λ w1 hw=>xR _ w1)) (λ x47 h47=>?_);refine pE ?_
     refine bC (λ c48=>?_) (λ c48=>?_)
     ·refine Ov ?_
      refine bD Tryz.results83 (λ w hw=>?_)
      refine⟨?_,hw.done⟩
      unfold gN yU oU wD
      simp only[cZ,bV,aQ.c,Nd.c]
      simp_all
      rfl
     ·refine aZ ?_;refine J2 ?_;refine J8 ?_
      refine bD Tryz.results83 (λ w hw=>?_)
      refine⟨?_,hw.done⟩
      unfold gN yU oU wD
      simp only[cZ,bV,aQ.c,Nd.c]
      simp_all
      rfl
    ·refine pF ?_;refine aV ?_;refine D9 ?_;refine aP (cV (hc:=λ w1 hw=>qC (h.Jl hw) _ (by exact hb.cs _) hl)) (λ x46=>?_);refine aE (c0 (V:=.bool) (hc:=λ w1 hw=>xR _ w1)) (λ x47 h47=>?_);refine pE ?_
     refine bC (λ c48=>?_) (λ c48=>?_)
     ·refine Ov ?_
      refine bD Tryz.results83 (λ w hw=>?_)
      refine⟨?_,hw.done⟩
      unfold gN yU oU wD
      simp only[cZ,bV,aQ.c,Nd.c]
      simp_all
      rfl
     ·refine aZ ?_;refine J2 ?_;refine J8 ?_
      refine bD Tryz.results83 (λ w hw=>?_)
      refine⟨?_,hw.done⟩
      unfold gN yU oU wD
      simp only[cZ,bV,aQ.c,Nd.c]
      simp_all
      rfl
theorem pw(h:rU w L cs pn pc)(hb:StB L cs)(hl:L.length<=274877906944)(hc:cs.length<=274877906944)(c:Int)(ro:Bool)(hi:c<=9223372036854775807):Calls prog 95 #[Lm L cs gen pn cn pc cc,.agg ⟨[.int .i64 c,.bool ro]⟩] w λ e w'=>e=.returned (.tuple #[.int .i64 ((kE (L.map aQ.c) cs c).getD 0),.bool (kE (L.map aQ.c) cs c).isSome])/\St w [] [] w':=by
 refine enter Tryz.func95 Tryz.ntmps95 rfl rfl h.start ?_
 simp only[cG]
 simp only[Lm]
 refine J0 ?_;refine bM (λ x2=>?_);refine bM (λ x3=>?_);refine J8 ?_;refine oR ?_;refine J3 ?_;refine aP (cV (hc:=λ w1 hw=>Et (h.Jl hw) c hi hc)) (λ x11=>?_);refine iT ?_;refine D9 ?_;refine aP (cV (hc:=λ w1 hw=>qC (h.Jl hw) (aS cs c) (hb.cs _) hl)) (λ x14=>?_);refine aL (λ x7=>?_);refine J5 ?_;refine iH ?_;refine uQ ?_
 refine bC (λ c17=>?_) (λ c17=>?_)
 ·refine iH ?_;refine J1 ?_;refine oR ?_;refine J3 ?_;refine aP (cV (hc:=λ w1 hw=>Et (h.Jl hw) (aC L (aS cs c)).nd.status (hb.status _) hc)) (λ x23=>?_);refine uQ ?_
  refine bC (λ c24=>?_) (λ c24=>?_)
  ·refine dR ?_;refine J3 ?_;refine iT ?_;refine D9 ?_;refine aP (cV (hc:=λ w1 hw=>qC (h.Jl hw) _ (by exact hb.new _) hl)) (λ x29=>?_);refine cB ?_;refine Kc9 ?_
   refine bC (λ c31=>?_) (λ c31=>?_)
   ·refine Ov ?_
    refine bD Tryz.results95 (λ w hw=>?_)
    refine⟨?_,hw.done⟩
    unfold kE rK
    simp only[cZ,bV,aQ.c,Nd.c]
    simp_all
    rfl
   ·refine aZ ?_;refine J2 ?_;refine J8 ?_
    refine bD Tryz.results95 (λ w hw=>?_)
    refine⟨?_,hw.done⟩
    unfold kE rK
    simp only[cZ,bV,aQ.c,Nd.c]
    simp_all
    rfl
  ·refine kZ ?_;refine D9 ?_;refine aP (cV (hc:=λ w1 hw=>qC (h.Jl hw) _ (by exact hb.bK _) hl)) (λ x29=>?_);refine cB ?_;refine Kc9 ?_
   refine bC (λ c31=>?_) (λ c31=>?_)
   ·refine Ov ?_
    refine bD Tryz.results95 (λ w hw=>?_)
    refine⟨?_,hw.done⟩
    unfold kE rK
    simp only[cZ,bV,aQ.c,Nd.c]
    simp_all
    rfl
   ·refine aZ ?_;refine J2 ?_;refine J8 ?_
    refine bD Tryz.results95 (λ w hw=>?_)
    refine⟨?_,hw.done⟩
    unfold kE rK
    simp only[cZ,bV,aQ.c,Nd.c]
    simp_all
    rfl
 ·refine kZ ?_;refine D9 ?_;refine aP (cV (hc:=λ w1 hw=>qC (h.Jl hw) _ (by exact hb.cs _) hl)) (λ x29=>?_);refine cB ?_;refine Kc9 ?_
  refine bC (λ c31=>?_) (λ c31=>?_)
  ·refine Ov ?_
   refine bD Tryz.results95 (λ w hw=>?_)
   refine⟨?_,hw.done⟩
   unfold kE rK
   simp only[cZ,bV,aQ.c,Nd.c]
   simp_all
   rfl
  ·refine aZ ?_;refine J2 ?_;refine J8 ?_
   refine bD Tryz.results95 (λ w hw=>?_)
   refine⟨?_,hw.done⟩
   unfold kE rK
   simp only[cZ,bV,aQ.c,Nd.c]
   simp_all
   rfl
end
end
end Go.Proofs.YtbajmaoegmbfgaaGreat
namespace Go.Ct
open Go Go.RowKit
section
def dt(n:Nat)(vs:List Bool)(l:List Int):Prop:=vs.length=n/\(∀k,k<n->(vs.getD k false=true↔((k+1:Nat):Int)∈l))/\l.length+vs.count false=n
theorem dt.zero(n:Nat):dt n (List.replicate n false) []:=⟨by simp,λ k hk=>by simp[iU,hk],by simp⟩
theorem count_set:∀(vs:List Bool) (k:Nat),k<vs.length->vs.getD k false=false->(vs.set k true).count false+1=vs.count false
 | [],_,h,_=>by simp at h
 | b::vs,0,_,h=>by
  have e:b=false:=by simpa using h
  subst e
  simp
 | b::vs,k+1,h,h2=>by
  have:=count_set vs k (by simpa using h) (by simpa using h2)
  rw[List.set_cons_succ,List.count_cons,List.count_cons]
  omega
theorem dt.set{n k:Nat}{vs:List Bool}{l:List Int}(h:dt n vs l)(hk:k<n)(hf:vs.getD k false=false):dt n (vs.set k true) (l++[((k+1:Nat):Int)]):=by
 have h1:=h.1
 refine⟨by simp[h.1],λ j hj=>?_,?_⟩
 ·have h2:=h.2.1 j hj
  rw[iU] at h2
  rw[iU,List.getElem?_set]
  by_cases e:k=j
  ·subst e
   simp[show k<vs.length by omega]
  ·rw[if_neg e,h2]
   simp only[List.mem_append,List.mem_singleton]
   constructor
   ·exact .inl
   ·rintro (h3|h3)
    ·exact h3
    ·omega
 ·have:=count_set vs k (by omega) hf
  have:=h.2.2
  simp only[List.length_append,List.length_cons,List.length_nil]
  omega
theorem dt.len{n:Nat}{vs:List Bool}{l:List Int}(h:dt n vs l):l.length<=n:=by have:=h.2.2;omega
theorem X3{N:List Nv}{r:Int}(h:bV (bA N r)):1<=r/\r<=N.length:=dG (by unfold bV at h;omega)
theorem ri{L:List aQ}{r:Int}(h:1<=r/\r<=L.length):((aC L r).nd.brA,aH (aC L r).xs)∈aN L:=by
 unfold aC
 rw[if_pos h]
 exact E2 (by omega)
theorem o0{L:List aQ}{r:Int}(h:1<=r/\r<=L.length):((aC L r).nd.prA,cX (aC L r).ys)∈aN L:=by
 unfold aC
 rw[if_pos h]
 exact E7 (by omega)
theorem ls(L:List aQ)(r:Int):(bA (L.map aQ.c) r).xs=(aC L r).xs:=by rw[cZ];rfl
theorem sm{L:List aQ}{cs:List Int}{c r:Int}(h:kE (L.map aQ.c) cs c=some r):∃k:Nat,r=((k+1:Nat):Int)/\k<L.length:=by
 unfold kE at h
 split at h
 ·rename_i hk
  cases h
  have:=dG (N:=L.map aQ.c) (i:=rK (L.map aQ.c) cs c) (by omega)
  rw[List.length_map] at this
  exact⟨(rK (L.map aQ.c) cs c-1).toNat,by omega,by omega⟩
 ·cases h
end
section
structure Pl where
 i:Int
 m:Int
 a:Int
 lv:Nat
 way:List Int
def sR(b:Nat):Nat->List Int
 | 0=>[]
 | k+1=>sR b k++(if b.testBit k then [(k:Int)] else [])
def yT(N:List Nv)(f:Int->List Int->List Int->Option (List Pl×List Pr))(way idx:List Int):List Int->Nat->List Int->Option (List Pl×List Pr)
 | [],_,_=>some ([],[])
 | b::r,j,s=>if(bA N b).kind=4 then(yT N f way idx r (j+1) s).map λ q=>(q.1,((bA N b).key,(bA N b).val)::q.2)
  else if(bA N b).kind=2 then(f b (way++[idx.getD j 0]) s).bind λ p=>(yT N f way idx r (j+1) (s++p.1.map Pl.i)).map λ q=>(p.1++q.1,p.2++q.2)
  else none
def It(N:List Nv)(cs:List Int):Nat->Int->Nat->Int->List Int->List Int->Option (List Pl×List Pr)
 | 0,_,_,_,_,_=>none
 | n+1,a,lv,i,way,s=>if i∈s then none else(gN N cs i).bind λ m =>
  if(bA N m).kind=5∨(bA N m).kind=6 then some ([⟨i,m,a,lv,way⟩],uq (bA N m))
  else(yT N (λ b w s=>It N cs n i (lv+1) b w s) way (sR (bA N m).bm.toNat 64) (bA N m).xs 0 (s++[i])).map λ q=>(⟨i,m,a,lv,way⟩::q.1,q.2)
end
section
theorem F6(b:Nat):∀k,(sR b k).length=gC b k
 | 0=>rfl
 | k+1=>by
  simp only[sR,List.length_append,F6 b k,gC]
  split<;>simp_all
end
end Go.Ct
namespace Go.Proofs.YtbajmaoegmbfgaaGreat
open Go Go.RowKit Go.Ct
section
theorem Mx{n:Nat}(hn:n<18446744073709551616)(w:World):Calls Tryz.prog 156 #[.int .u64 (n:Int)] w λ e w'=>∃x:Option Addr×Nat,e=.returned (.slice x.1 (sR n 64).length x.2)/\True/\SF w [] [] [] [(x.1,aH (sR n 64))] [] w':=by
 refine enter Tryz.func156 Tryz.ntmps156 rfl rfl ((SF.s0 w).kA 3 1) ?_
 simp only[cG]
 refine dA ?_;refine E8 ?_;refine D8 ?_
 refine nT [3,4,5,6,7,8,9,10,11,12,13,14,15] (λ y:Nat×Option Addr×Nat=>[(3,.slice y.2.1 (sR n y.1).length y.2.2),(4,.int .i64 ((y.1:Nat):Int))]) (λ y=>y.1<=64) (λ _=>_) (λ _=>_) (λ y=>[⟨y.2.1,aH (sR n y.1),y.2.2,3,1⟩]) (λ y=>64-y.1) ((0,none,0)) (by decide) (λ y f hx=>?_)
 dsimp only[iC,List.map,List.cons_append,List.nil_append]
 have hcl:=zH n y.1
 have hil:=F6 n y.1
 refine kT ?_;refine Bi ?_
 refine bC (λ c6=>?_) (λ c6=>?_)
 ·refine rY ?_;refine jF ?_;refine aP (cV (hc:=λ w1 hw=>Ii hn (y.1:Int) w1)) (λ x11=>?_);refine aI ?_
  refine bC (λ c11=>?_) (λ c11=>?_)
  ·have e1:sR n (y.1+1)=sR n y.1++[(y.1:Int)]:=by rw[tF n (by omega) (by omega),Int.toNat_natCast] at c11;simp only[sR,c11,if_true]
   refine Jb ?_;refine fF (λ x14=>?_);(refine fD (λ x15=>?_);try (refine eY (λ h15=>?_)));refine J1 ?_;refine Ka8 ?_
   refine lC ((by exact(y.1+1,x15))) ?_ ?_ (by repeat (first|(with_reducible exact yR.refl)|refine yR.cons (by exact rfl) ?_)) ?_ (λ w hw=>by simp only[e1];exact hw.back)
   ·omega
   ·repeat' (first|exact bJ _|refine bF ?_ ?_)
    all_goals (first|exact rfl|(simp only[e1];(conv=>{lhs;whnf};simp;done)))
   ·(show y.1+1<=64;omega)
  ·have e1:sR n (y.1+1)=sR n y.1:=by rw[tF n (by omega) (by omega),Int.toNat_natCast] at c11;simp only[sR,c11];simp
   refine Kc1 ?_
   refine lC ((by exact(y.1+1,y.2))) ?_ ?_ (by repeat (first|(with_reducible exact yR.refl)|refine yR.cons (by exact rfl) ?_)) ?_ (λ w hw=>by simp only[e1];exact hw.back)
   ·omega
   ·repeat' (first|exact bJ _|refine bF ?_ ?_)
    all_goals (first|exact rfl|(simp only[e1];exact rfl))
   ·(show y.1+1<=64;omega)
 ·refine bT rfl ?_;refine Ka5 ?_
  refine aT Tryz.results156 (λ w hw=>?_)
  have e2:y.1=64:=by omega
  rw[e2] at hw ⊢
  generalize sR n 64=B at hw ⊢
  exact⟨y.2,rfl,trivial,SF.frz hw.aY⟩
theorem Iv{n:Nat}{b:Int}{ix:List Int}(hi:ix=sR n 64)(hn:n<18446744073709551616)(e:b=(n:Int))(w:World):Calls Tryz.prog 156 #[.int .u64 b] w λ e w'=>∃x:Option Addr×Nat,e=.returned (.slice x.1 ix.length x.2)/\True/\SF w [] [] [] [(x.1,aH ix)] [] w':=by
 rw[hi,e]
 with_reducible exact Mx hn w
end
end Go.Proofs.YtbajmaoegmbfgaaGreat
namespace Go.Ct
open Go Go.RowKit
section
structure vE where
 p:Pl
 wp:Option Addr
 wc:Nat
def vE.cells(v:vE):List Value:=[.int .i64 v.p.i,.int .i64 v.p.m,.int .i64 v.p.a,.int .i64 ((v.p.lv:Nat):Int),.slice v.wp v.p.way.length v.wc]
def qV(l:List vE):List Value:=l.flatMap vE.cells
def I5(l:List vE):Fr:=l.map λ v=>(v.wp,aH v.p.way)
theorem wU:∀l:List vE,(qV l).length=l.length*5
 | []=>rfl
 | v::l=>by simp only[qV,List.flatMap_cons,List.length_append] at *;rw[show(List.flatMap vE.cells l).length=l.length*5 from wU l];simp[vE.cells];omega
theorem Pu(l l2:List vE):qV (l++l2)=qV l++qV l2:=by simp[qV]
theorem A4:∀l:List vE,(qV l).all (·.oneCell')=true
 | []=>rfl
 | v::l=>by simp only[qV,List.flatMap_cons,List.all_append];rw[show(List.flatMap vE.cells l).all (·.oneCell')=true from A4 l];rfl
section
variable{N:List Nv}{f:Int->List Int->List Int->Option (List Pl×List Pr)}{way idx xs s s2:List Int}{j:Nat}{r:List Pl×List Pr}
def Ba(N:List Nv)(f:Int->List Int->List Int->Option (List Pl×List Pr))(way idx xs s:List Int)(j:Nat)(tl:List Pl)(ps:List Pr):Prop :=
 yT N f way idx xs 0 s=(yT N f way idx (xs.drop j) j (s++tl.map Pl.i)).map λ q=>(tl++q.1,ps++q.2)
theorem Ba.zero:Ba N f way idx xs s 0 [] []:=by
 unfold Ba
 simp only[List.drop_zero,List.map_nil,List.append_nil,List.nil_append]
 cases yT N f way idx xs 0 s<;>rfl
theorem Er{xs:List Int}{j:Nat}(h:j<xs.length):xs.drop j=xs.getD j 0::xs.drop (j+1):=by
 rw[List.drop_eq_getElem_cons h,iU,List.getElem?_eq_getElem h];rfl
theorem Ba.single{tl:List Pl}{ps:List Pr}(h:Ba N f way idx xs s j tl ps)(hj:j<xs.length)(hk:(bA N (xs.getD j 0)).kind=4):Ba N f way idx xs s (j+1) tl (ps++[((bA N (xs.getD j 0)).key,(bA N (xs.getD j 0)).val)]):=by
 unfold Ba at h ⊢
 rw[h,Er hj]
 simp only[yT,hk,if_true]
 cases yT N f way idx (xs.drop (j+1)) (j+1) (s++tl.map Pl.i)<;>simp
theorem Ba.inner{tl:List Pl}{ps:List Pr}(h:Ba N f way idx xs s j tl ps)(hj:j<xs.length)(hk:(bA N (xs.getD j 0)).kind=2)(hf:f (xs.getD j 0) (way++[idx.getD j 0]) (s++tl.map Pl.i)=some r):Ba N f way idx xs s (j+1) (tl++r.1) (ps++r.2):=by
 unfold Ba at h ⊢
 rw[h,Er hj]
 have h4:¬(bA N (xs.getD j 0)).kind=4:=by omega
 simp only[yT,h4,hk,if_true,if_false,hf,Option.bind_some,List.map_append,List.append_assoc]
 cases yT N f way idx (xs.drop (j+1)) (j+1) (s++(tl.map Pl.i++r.1.map Pl.i))<;>simp
theorem Ba.fail{tl:List Pl}{ps:List Pr}(h:Ba N f way idx xs s j tl ps)(hj:j<xs.length)(hk:(bA N (xs.getD j 0)).kind=2)(hf:f (xs.getD j 0) (way++[idx.getD j 0]) (s++tl.map Pl.i)=none):yT N f way idx xs 0 s=none:=by
 unfold Ba at h
 rw[h,Er hj]
 have h4:¬(bA N (xs.getD j 0)).kind=4:=by omega
 simp only[yT,h4,hk,if_true,if_false,hf,Option.bind_none,Option.map_none,reduceCtorEq,show ¬((2:Int)=4) by decide]
theorem Ba.bad{tl:List Pl}{ps:List Pr}(h:Ba N f way idx xs s j tl ps)(hj:j<xs.length)(hk:(bA N (xs.getD j 0)).kind≠4)(hk2:(bA N (xs.getD j 0)).kind≠2):yT N f way idx xs 0 s=none:=by
 unfold Ba at h
 rw[h,Er hj]
 simp only[yT,hk,hk2,if_false,Option.map_none]
theorem Ba.done{tl:List Pl}{ps:List Pr}(h:Ba N f way idx xs s j tl ps)(hj:xs.length<=j):yT N f way idx xs 0 s=some (tl,ps):=by
 unfold Ba at h
 rw[h,List.drop_eq_nil_of_le hj]
 simp[yT]
end
section
variable{N:List Nv}{cs:List Int}{a i m:Int}{lv n:Nat}{way s:List Int}
theorem oa(h:i∈s):∀{n:Nat},It N cs n a lv i way s=none
 | 0=>rfl
 | _+1=>if_pos h
theorem ck(h:(gN N cs i).isSome=false):∀{n:Nat},It N cs n a lv i way s=none
 | 0=>rfl
 | n+1=>by
  unfold It
  cases hb:gN N cs i with
  | none=>split<;>rfl
  | some m=>rw[hb] at h;cases h
theorem Mn(h:¬i∈s)(h2:gN N cs i=some m)(h3:(bA N m).kind=5∨(bA N m).kind=6):It N cs (n+1) a lv i way s=some ([⟨i,m,a,lv,way⟩],uq (bA N m)):=by
 unfold It
 rw[if_neg h,h2,Option.bind_some,if_pos h3]
theorem vq(h:¬i∈s)(h2:gN N cs i=some m)(h3:¬((bA N m).kind=5∨(bA N m).kind=6)):It N cs (n+1) a lv i way s=(yT N (λ b w s=>It N cs n i (lv+1) b w s) way (sR (bA N m).bm.toNat 64) (bA N m).xs 0 (s++[i])).map λ q=>(⟨i,m,a,lv,way⟩::q.1,q.2):=by
 rw[It]
 rw[if_neg h,h2,Option.bind_some,if_neg h3]
end
end
end Go.Ct
