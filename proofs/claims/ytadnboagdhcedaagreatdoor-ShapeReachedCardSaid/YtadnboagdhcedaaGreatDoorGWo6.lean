/- Worlds: the state of a world; an operation is run in it, an execution makes a step. -/
import Derived.Test.YtadnboagdhcedaaGreatDoorGTm2
import Derived.Test.YtadnboagdhcedaaGreatDoorGWo4
import Derived.Test.YtadnboagdhcedaaGreatDoorGQw1
import Derived.Test.YtadnboagdhcedaaGreatDoorGVx0
import Derived.Test.YtadnboagdhcedaaGreatDoorGSh14
import Derived.Test.YtadnboagdhcedaaGreatDoorGJoin

set_option linter.unusedSimpArgs false
set_option linter.unusedVariables false
namespace Go.Ct
section
open Go Go.RowKit
section
variable{α:Type}
theorem A8.pre:∀(es r:List α),A8 (es++r) (List.replicate es.length 0) es r
 | [],r=>.nil
 | a::es,r=>.cons .head (A8.pre es r)
end
theorem Cf{P:Program}{f:FuncId}{vs:Array Value}{X:Type}{V:X->Value}{φ:X->Prop}{w0 w:World}{M:List Nat}{H hs H':List (Nat×Obj)}{A A0 F:Fr}{O os O':List Ow}{hs':X->List (Nat×Obj)}{os':X->List Ow}{Fc:X->Fr}
  (h:SF w0 M H A F O w) (pH:H.Perm (hs++H')) (pO:O.Perm (os++O')) (hA:bP A F O' A0)
  (hc:SF w (Ks hs os) hs A0 [] os w->Calls P f vs w λ e w'=>∃x,e=.returned (V x)/\φ x/\SF w (Ks hs os) (hs' x) [] (Fc x) (os' x) w') :
  Calls P f vs w λ e w'=>∃x,e=.returned (V x)/\φ x/\SF w0 M (hs' x++H') A (Fc x++F) (os' x++O') w':=by
 have h1:=h.perm pH.symm pO.symm
 refine(hc (h1.Fg (A8.pre hs H') (A8.pre os O') hA)).mono λ e w' ⟨x,e1,hx,hw⟩=>⟨x,e1,hx,?_⟩
 have kperm:∀(a c:List (Nat×Obj)) (b d:List Ow),(Ks (a++c) (b++d)).Perm (Ks a b++Ks c d):=λ a c b d=>by
  unfold Ks
  rw[List.map_append,List.flatMap_append]
  simp only[List.append_assoc]
  refine List.Perm.append_left _ ?_
  rw[<- List.append_assoc,<- List.append_assoc]
  exact List.Perm.append_right _ List.perm_append_comm
 have nd0:=(kperm hs H' os O').nodup_iff.1 h1.dis
 have disj:∀b∈Ks hs os,b∉Ks H' O':=λ b hb hm=>(List.nodup_append.1 nd0).2.2 b hb b hm rfl
 exact h1.Xz (D:=Ks hs os) (Hm:=[]) (Hc:=hs' x) (H1:=H') (Fc:=Fc x) (Om:=[]) (Oc:=os' x) (O1:=O') hw (λ b hb=>(kperm hs H' os O').mem_iff.2 (List.mem_append_left _ hb))
  (λ p hpm=>.inr ⟨List.mem_append_right _ hpm,λ hm=>disj _ hm (dR.2 (.inl ⟨p,hpm,rfl⟩))⟩)
  (λ o ho=>.inr ⟨List.mem_append_right _ ho,λ b hb hm=>disj _ hm (dR.2 (.inr ⟨o,ho,hb⟩))⟩)
  (List.nodup_append.1 nd0).2.1
end
end Go.Ct
namespace Go.Proofs.YtadnboagdhcedaaGreatDoor
section
open Go Go.RowKit Go.Ct
structure EX where
 b:Nat
 k:Cl
 x:XS
 dn:Bool
 rs:Rs
 R:Tr
structure Wd where
 z:XS
 ts:List dZ
 pt:Option Addr
 kt:Nat
 ex:List EX
 pe:Option Addr
 ke:Nat
def Cm(bm:Nat)(l:List EX):List (Nat×Obj):=l.map λ e=>(e.b,xO e.k bm e.x e.dn e.rs)
def Aq(l:List EX):List Ow:=l.flatMap λ e=>[⟨e.x.pg,aG e.x.got,e.x.kg,62,1⟩,⟨e.x.pm,aG e.x.made,e.x.km,62,1⟩,⟨e.x.pl,aG e.x.cel,e.x.kl,27,1⟩,⟨e.x.pe,aG e.x.gns,e.x.ke,3,1⟩]
def lW(l:List EX):List Nat:=l.map EX.b
abbrev wH(m bw bm:Nat)(W:Wd):List (Nat×Obj):=(bw,mX bm (m:Int) W.pt W.ts.length W.kt W.pe (lW W.ex).length W.ke)::(bm,xM W.z)::Cm bm W.ex
abbrev wO(W:Wd):List Ow:=⟨W.pt,qS W.ts,W.kt,29,2⟩::⟨W.pe,vV (lW W.ex),W.ke,73,1⟩::⟨W.z.pn,gR W.z.L,W.z.cn,77,14⟩::⟨W.z.pc,aG W.z.cs,W.z.cc,62,1⟩::Aq W.ex
def XS.wm(x z:XS):XS:={x with L:=z.L,cs:=z.cs,gen:=z.gen,acc:=z.acc,pn:=z.pn,cn:=z.cn,pc:=z.pc,cc:=z.cc}
theorem pu{x z z':XS}{N:List aL}(h:(XS.wm x z).Ok)(h':z'.Ok)(e:z'.L=z.L++N):(XS.wm x z').Ok:=by
 have hl:z.L.length<=z'.L.length:=by rw[e,List.length_append];omega
 exact⟨h'.fit,h'.nd,h'.cs,λ v hv=>by have:=h.got v hv;show v<=z'.L.length;have h2:v<=z.L.length:=this;omega,λ v hv=>by have:=h.made v hv;show v<=z'.L.length;have h2:v<=z.L.length:=this;omega,h'.two,h'.lL,h'.lc,h.lg,h.la,h.lm,h.lk,h.le,h.fr,h'.ys,h'.gen0,h.ms,h.m1⟩
theorem fq{z:XS}(h:z.Ok):(XS.new z.L z.cs z.gen z.acc z.pn z.cn z.pc z.cc).Ok :=
 ⟨h.fit,h.nd,h.cs,(λ v hv=>nomatch hv),(λ v hv=>nomatch hv),h.two,h.lL,h.lc,Nat.zero_le _,Nat.le_refl _,Nat.le_refl _,Nat.le_refl _,Nat.le_refl _,Nat.zero_le _,h.ys,h.gen0,(λ i j _ hj=>absurd hj (Nat.not_lt_zero j)),(λ v hv=>nomatch hv)⟩
theorem tv{T:Tr}{x z z':XS}{dn:Bool}{rs:Rs}{R:Tr}{N:List aL}(h:ob T (XS.wm x z) dn rs R)(h':z'.Ok)(e:z'.L=z.L++N):ob T (XS.wm x z') dn rs R:=by
 refine⟨pu h.ok h' e,?_,h.Vt⟩
 have hw:=h.wk
 show Wk (z'.L.map aL.c) T x.got x.made x.cel x.gns R
 rw[e,List.map_append]
 exact Wk.mono hw
structure vv(m C:Nat)(z:XS)(e:EX):Prop where
 i:ob (T0 e.k m) (XS.wm e.x z) e.dn e.rs e.R
 k:7<=e.k.kind/\e.k.kind<=12
 em:e.k.mask=(m:Int)
 ht:e.k.t.root<=9223372036854775807
 ha:e.k.a=0/\e.k.b=0/\e.k.n=0
 gl:e.x.got.length<=C
theorem vv.wm{m C:Nat}{z z':XS}{e:EX}{N:List aL}(h:vv m C z e)(h':z'.Ok)(he:z'.L=z.L++N):vv m C z' e:=⟨tv h.i h' he,h.k,h.em,h.ht,h.ha,h.gl⟩
theorem No{T R:Tr}{x:XS}{dn:Bool}{rs:Rs}(h:ob T x dn rs R):oH R=true:=by
 rcases h.Vt with⟨_,e⟩|⟨_,e⟩
 ·rw[e];rfl
 ·cases R<;>first|rfl|(simp[Tr.acc] at e)
structure Fz(m B C E:Nat)(W:Wd):Prop where
 z:W.z.Ok
 sz:Sz W.z B
 ex:∀e∈W.ex,vv m C W.z e
 t0:0<W.ts.length
 tr:(W.ts.getD 0 ⟨0,false⟩).ro=false
 tl:W.ts.length<=5
 el:W.ex.length<=E
 wr:WR (H8 m) m W.z.mm W.ts (W.ex.map EX.R)
theorem Fz.root{m B C E:Nat}{W:Wd}(h:Fz m B C E W)(hB:B<=1000000000000){t:dZ}(ht:t∈W.ts):t.root<=9223372036854775807:=by
 obtain⟨σ,hi⟩:=h.wr.inv
 have h1:=(hi.ts t ht).2.1
 have h2:=h.sz.2.1
 have e:σ.cl=W.z.cs.length:=by simp only[Kw.cl,hi.mm];rfl
 omega
theorem Ux{m:Nat}{k:Cl}{ts:List dZ}(hk:7<=k.kind/\k.kind<=12)(hm:m<18446744073709551616)(ht:k.t∈ts)(hky:k.key∈kN)(hro:wrK k.kind->k.t.ro=false){s:Mm}:∀σ:Kw,σ.mm=s->Inv (H8 m) σ->(∀t∈ts,bR σ t)->Pf (H8 m) σ k (kI k.key m):=λ σ _ _ h =>
 ⟨h _ ht,rC _ _,if_pos hky,hro,.inl hk⟩
section
variable{m B C E bw bm:Nat}{D:List Nat}{A:Fr}{w:World}
set_option maxHeartbeats 1000000 in
theorem jv{W:Wd}{q:D7}{kind:Int}(steps:Nat)(hst:steps<=1048576)(hC:steps<=C)(hB:B<=100000000000)(hm:m<18446744073709551616)(hW:Fz m B C E W)(hE:E<=900)(hkd:7<=kind/\kind<=12)(hq:Ll kind W.ts q)(hA:∀f∈aW W.z.L,f∈A)(hs:SF w D (wH m bw bm W) A [] (wO W) w) :
  Calls Tryz.prog 28 #[.pointer (some ⟨bw,0,none⟩),.agg ⟨Nt (q.cl kind m)⟩,.int .i64 (steps:Int)] w λ e w'=>∃r:Wd×List aL,e=.returned (.tuple #[])/\(Fz m (B+64+128*steps) C (E+1) r.1/\r.1.z.L=W.z.L++r.2)/\SF w D (wH m bw bm r.1) [] (aW r.2) (wO r.1) w':=by
 have hwt:=hW.root (by omega) hq.mem
 have hlen:(lW W.ex).length=W.ex.length:=by simp[lW]
 have hel:=hW.el
 have htl:=hW.tl
 have:=Cf (f:=28) (H':=Cm bm W.ex) (O':=Aq W.ex) (hs:=[(bw,mX bm (m:Int) W.pt W.ts.length W.kt W.pe (lW W.ex).length W.ke),(bm,xM W.z)]) (os:=[⟨W.pt,qS W.ts,W.kt,29,2⟩,⟨W.pe,vV (lW W.ex),W.ke,73,1⟩,⟨W.z.pn,gR W.z.L,W.z.cn,77,14⟩,⟨W.z.pc,aG W.z.cs,W.z.cc,62,1⟩]) (A0:=aW W.z.L) hs (List.Perm.refl _) (List.Perm.refl _) (bP.of λ f hf=>.inr (.inl (hA f hf)))
  (λ h=>qo (k:=q.cl kind m) (m:=m) (B:=B) steps hst hB hW.sz (.inr ⟨hkd.1,hkd.2⟩) hm rfl hwt rfl rfl rfl (λ f hf=>hf) (fq hW.z) (by omega) (by omega) h)
 refine this.mono λ e w' ⟨⟨bx,y,kq⟩,e1,⟨hi,his,hk⟩,hw⟩=>?_
 replace his:y.i<=steps:=his
 replace hi:Jn (q.cl kind m) m (XS.new W.z.L W.z.cs W.z.gen W.z.acc W.z.pn W.z.cn W.z.pc W.z.cc) B y:=hi
 have hext:y.x.L=W.z.L++y.N:=hi.ext
 obtain⟨j,hrc⟩:=hi.rc
 have hstart:WR (H8 m) m y.x.mm W.ts (y.R::W.ex.map EX.R):=.start hW.wr (Ux hkd hm hq.mem hq.ky hq.ro) hrc (No hi.ex)
 have hszy:Sz y.x (B+64+128*steps):=by obtain⟨z1,z2,z3⟩:=hi.sz;exact⟨by omega,by omega,by omega⟩
 have hexs:∀e∈W.ex,vv m C y.x e:=λ e he=>(hW.ex e he).wm hi.ex.ok hext
 rw[List.append_nil] at hw
 obtain⟨i,x,N,dn,rs,R⟩:=y
 cases dn with
 | true =>
  rcases hk with⟨hd,_⟩|⟨_,he,hts⟩
  ·cases hd
  ·have hR:R=.done rs:=by rcases hi.ex.Vt with⟨_,h⟩|⟨h,_⟩;exact h;cases h
   have hL:kq.ts.length<=5/\0<kq.ts.length/\(kq.ts.getD 0 ⟨0,false⟩).ro=false/\WR (H8 m) m x.mm kq.ts (W.ex.map EX.R):=by
    rcases hts with hts|⟨h0,h5,hts⟩
    ·rw[hts];exact⟨hW.tl,hW.t0,hW.tr,by subst hR;exact hstart.drop⟩
    ·refine⟨h5,by rw[hts];simp,?_,?_⟩
     ·rw[hts,fI,List.getElem?_append_left hW.t0,<- fI];exact hW.tr
     ·rw[hts]
      subst hR
      exact(hstart.add h0).drop
   refine⟨(⟨x,kq.ts,kq.pt,kq.kt,W.ex,kq.pe,kq.ke⟩,N),e1,⟨⟨hi.ex.ok,hszy,hexs,hL.2.1,hL.2.2.1,hL.1,by show W.ex.length<=E+1;omega,hL.2.2.2⟩,hext⟩,?_⟩
   have hes:kq.es=lW W.ex:=he
   dsimp only[wH,wO]
   rw[<- hes]
   exact hw.vr
 | false =>
  rcases hk with⟨_,he,hts⟩|⟨hd,_⟩
  ·have hes:lW (W.ex++[⟨bx,q.cl kind m,x,false,rs,R⟩])=kq.es:=by rw[he];simp[lW]
   refine⟨(⟨x,kq.ts,kq.pt,kq.kt,W.ex++[⟨bx,q.cl kind m,x,false,rs,R⟩],kq.pe,kq.ke⟩,N),e1,⟨⟨hi.ex.ok,hszy,λ e he=>?_,by rw[show kq.ts=W.ts from hts];exact hW.t0,by rw[show kq.ts=W.ts from hts];exact hW.tr,by rw[show kq.ts=W.ts from hts];exact hW.tl,by simp;omega,?_⟩,hext⟩,?_⟩
   ·rcases List.mem_append.1 he with he|he
    ·exact hexs e he
    ·rw[List.mem_singleton.1 he]
     exact⟨hi.ex,hkd,rfl,hwt,⟨rfl,rfl,rfl⟩,by have:=hi.gl;show x.got.length<=C;simp only at this his;omega⟩
   ·rw[show kq.ts=W.ts from hts,List.map_append]
    exact hstart.perm (List.perm_append_comm (l₁:=[R]))
   ·dsimp only[wH,wO]
    rw[hes]
    refine hw.vr.perm ?_ ?_
    ·have e2:Cm bm (W.ex++[⟨bx,q.cl kind m,x,false,rs,R⟩])=Cm bm W.ex++[(bx,xO (q.cl kind m) bm x false rs)]:=by simp[Cm]
     rw[e2]
     exact(List.perm_append_comm (l₁:=(bw,_)::(bm,_)::Cm bm W.ex) (l₂:=[(bx,xO (q.cl kind m) bm x false rs)]))
    ·have e2:Aq (W.ex++[⟨bx,q.cl kind m,x,false,rs,R⟩])=Aq W.ex++xE4 x false:=by simp[Aq,xE4]
     rw[e2]
     exact(List.perm_append_comm (l₁:=_::_::_::_::Aq W.ex) (l₂:=xE4 x false))
  ·cases hd
abbrev Wd.go(W:Wd)(z:XS)(ex:List EX):Wd:=⟨z,W.ts,W.pt,W.kt,ex,W.pe,W.ke⟩
def StX(W:Wd)(i:Nat)(z:XS)(ex:List EX):Prop:=∃l1 e e' l2,W.ex=l1++e::l2/\l1.length=i/\ex=l1++e'::l2/\e'.b=e.b/\((e.dn=true/\e'=e)∨(e.dn=false/\∃j,j<=1/\(e'.dn=false->j=1)/\Rc j e.R W.z.mm e'.R z.mm))
theorem E9{l:List EX}{i:Nat}(hi:i<l.length):∃l1 e l2,l=l1++e::l2/\l1.length=i:=by
 refine⟨l.take i,l[i],l.drop (i+1),?_,by simp;omega⟩
 rw[<- List.drop_eq_getElem_cons hi,List.take_append_drop]
theorem qc{W:Wd}{l1 l2:List EX}{e:EX}(hl:W.ex=l1++e::l2):(wH m bw bm W).Perm (xH e.k e.b bm (XS.wm e.x W.z) e.dn e.rs++((bw,mX bm (m:Int) W.pt W.ts.length W.kt W.pe (lW W.ex).length W.ke)::Cm bm (l1++l2))):=by
 have e1:Cm bm W.ex=Cm bm l1++(e.b,xO e.k bm (XS.wm e.x W.z) e.dn e.rs)::Cm bm l2:=by rw[hl];simp only[Cm,List.map_append,List.map_cons];rfl
 have e2:Cm bm (l1++l2)=Cm bm l1++Cm bm l2:=by simp[Cm]
 dsimp only[wH]
 rw[e1,e2]
 refine(List.Perm.swap _ _ _).trans ?_
 refine(((List.perm_middle (a:=(e.b,xO e.k bm (XS.wm e.x W.z) e.dn e.rs)) (l₁:=Cm bm l1) (l₂:=Cm bm l2)).cons _).cons _).trans ?_
 refine((List.Perm.swap _ _ _).cons _).trans ?_
 exact List.Perm.swap _ _ _
theorem sb{W:Wd}{l1 l2:List EX}{e:EX}(hl:W.ex=l1++e::l2):(wO W).Perm (xW (XS.wm e.x W.z)++(⟨W.pt,qS W.ts,W.kt,29,2⟩::⟨W.pe,vV (lW W.ex),W.ke,73,1⟩::Aq (l1++l2))):=by
 have e1:Aq W.ex=Aq l1++(Aq [e]++Aq l2):=by rw[hl];simp[Aq]
 have e2:Aq (l1++l2)=Aq l1++Aq l2:=by simp[Aq]
 dsimp only[wO]
 rw[e1,e2]
 have hx:xW (XS.wm e.x W.z)=Aq [e]++[⟨W.z.pn,gR W.z.L,W.z.cn,77,14⟩,⟨W.z.pc,aG W.z.cs,W.z.cc,62,1⟩]:=rfl
 rw[hx]
 generalize Aq [e]=oe
 generalize Aq l1=o1
 generalize Aq l2=o2
 have p1:(o1++(oe++o2)).Perm (oe++(o1++o2)):=by
  rw[<- List.append_assoc,<- List.append_assoc]
  exact List.perm_append_comm.append_right _
 refine((((p1.cons _).cons _).cons _).cons _).trans ?_
 have p2:∀(a b c d:Ow) (l r:List Ow),(a::b::c::d::(l++r)).Perm (l++[c,d]++(a::b::r)):=λ a b c d l r=>by
  have h1:([a,b]++[c,d]++l++r).Perm (l++[c,d]++[a,b]++r):=by
   refine List.Perm.append_right r ?_
   refine List.perm_append_comm.trans ?_
   rw[List.append_assoc]
   exact List.Perm.append_left l List.perm_append_comm
  simpa using h1
 exact p2 _ _ _ _ _ _
theorem Nj{W:Wd}{i:Nat}(hi:i<W.ex.length)(hC:C<=1000000000)(hB:B<=100000000000)(hm:m<18446744073709551616)(hW:Fz m B C E W)(hA:∀f∈aW W.z.L,f∈A)(hs:SF w D (wH m bw bm W) A [] (wO W) w) :
  Calls Tryz.prog 29 #[.pointer (some ⟨(lW W.ex).getD i 0,0,none⟩)] w λ e w'=>∃q:XS×List EX×List aL,e=.returned (.tuple #[])/\(Fz m (B+128) (C+1) E (W.go q.1 q.2.1)/\q.1.L=W.z.L++q.2.2/\StX W i q.1 q.2.1)/\SF w D (wH m bw bm (W.go q.1 q.2.1)) [] (aW q.2.2) (wO (W.go q.1 q.2.1)) w':=by
 obtain⟨l1,e,l2,hl,hi1⟩:=E9 hi
 have hb:(lW W.ex).getD i 0=e.b:=by rw[hl,<- hi1];simp[lW]
 rw[hb]
 have he:=hW.ex e (by rw[hl];simp)
 have hsz:=hW.sz
 obtain⟨s1,s2,s3⟩:=hsz
 have hgl:=he.gl
 have pH:=qc (m:=m) (bw:=bw) (bm:=bm) hl
 have pO:=sb hl
 have key:=Cf (f:=29) (A0:=aW W.z.L) hs pH pO (bP.of λ f hf=>.inr (.inl (hA f hf)))
  (λ h=>Y0 (x:=XS.wm e.x W.z) (N:=e.x.got.length+1) (n:=1073741824) (m:=m) (vA e.k m (by omega)) (by omega) rfl ⟨by show W.z.L.length<=_;omega,by show W.z.cs.length<=_;omega,by show W.z.gen<=_;omega⟩ he.i (.inr he.k) (Nat.le_refl _) hm he.em he.ht (by rw[he.ha.1];exact bH _) (by rw[he.ha.2.1];exact bH _) (by rw[he.ha.2.2];exact bH _) (λ f hf=>hf) h)
 refine key.mono λ en w' ⟨⟨x',N,dn',rs'⟩,e1,hq,hw⟩=>?_
 rw[List.append_nil] at hw
 rcases hq with⟨hd,hq⟩|⟨hd,hq⟩
 ·have h1:x'=XS.wm e.x W.z:=congrArg (λ q:XS×List aL×Bool×Rs=>q.1) hq
  have h2:N=[]:=congrArg (λ q:XS×List aL×Bool×Rs=>q.2.1) hq
  have h3:dn'=true:=congrArg (λ q:XS×List aL×Bool×Rs=>q.2.2.1) hq
  have h4:rs'=e.rs:=congrArg (λ q:XS×List aL×Bool×Rs=>q.2.2.2) hq
  subst h1 h2 h3 h4
  refine⟨(W.z,W.ex,[]),e1,⟨⟨hW.z,⟨by show W.z.L.length<=_;omega,by show W.z.cs.length<=_;omega,by show W.z.gen<=_;omega⟩,λ x hx=>?_,hW.t0,hW.tr,hW.tl,hW.el,hW.wr⟩,by simp,l1,e,e,l2,hl,hi1,hl,rfl,.inl ⟨hd,rfl⟩⟩,?_⟩
  ·have:=hW.ex x hx
   exact⟨this.i,this.k,this.em,this.ht,this.ha,by have:=this.gl;omega⟩
  ·have hw2:=hw.vr.perm (H':=wH m bw bm W) (O':=wO W) (by rw[hd] at pH;exact pH) pO
   exact hw2
 ·obtain⟨R',j,h1,h2,h3,h4,h5,h6⟩:=zV.exI hq
  have hx':XS.wm x' x'=x':=rfl
  have hext:x'.L=W.z.L++N:=h5
  have hsz':Sz x' (B+128):=Gk he.i hd (vA e.k m (n:=e.x.got.length+1) (by omega)) (Nat.le_refl _) h4 h1 hW.sz
  have hwr:WR (H8 m) m x'.mm W.ts ((l1++⟨e.b,e.k,x',dn',rs',R'⟩::l2).map EX.R):=by
   have w1:=hW.wr
   rw[hl,List.map_append,List.map_cons] at w1
   have w2:=(w1.perm List.perm_middle).step h4 (No h3)
   rw[List.map_append,List.map_cons]
   exact w2.perm List.perm_middle.symm
  have hgl':=zV.gl hq
  have hexB:lW (l1++⟨e.b,e.k,x',dn',rs',R'⟩::l2)=lW W.ex:=by rw[hl];simp[lW]
  refine⟨(x',l1++⟨e.b,e.k,x',dn',rs',R'⟩::l2,N),e1,⟨⟨h3.ok,hsz',λ y hy=>?_,hW.t0,hW.tr,hW.tl,by have:=hW.el;rw[hl] at this;simpa using this,hwr⟩,hext,l1,e,⟨e.b,e.k,x',dn',rs',R'⟩,l2,hl,hi1,rfl,rfl,.inr ⟨hd,j,h1,h2,h4⟩⟩,?_⟩
  ·rcases List.mem_append.1 hy with hy|hy
   ·have:=(hW.ex y (by rw[hl];exact List.mem_append_left _ hy)).wm h3.ok hext
    exact⟨this.i,this.k,this.em,this.ht,this.ha,by have:=this.gl;omega⟩
   ·rcases List.mem_cons.1 hy with rfl|hy
    ·exact⟨h3,he.k,he.em,he.ht,he.ha,by show x'.got.length<=C+1;have:x'.got.length<=e.x.got.length+1:=hgl';omega⟩
    ·have:=(hW.ex y (by rw[hl];exact List.mem_append_right _ (List.mem_cons_of_mem _ hy))).wm h3.ok hext
     exact⟨this.i,this.k,this.em,this.ht,this.ha,by have:=this.gl;omega⟩
  ·rw[<- hexB] at hw
   exact hw.vr.perm (qc (W:=W.go x' (l1++⟨e.b,e.k,x',dn',rs',R'⟩::l2)) rfl) (sb (W:=W.go x' (l1++⟨e.b,e.k,x',dn',rs',R'⟩::l2)) rfl)
theorem Wj{W:Wd}{i:Nat}(hi:i<W.ex.length)(hC:C<=1000000000)(hB:B<=100000000000)(hm:m<18446744073709551616)(hW:Fz m B C E W)(hA:∀f∈aW W.z.L,f∈A)(hs:SF w D (wH m bw bm W) A [] (wO W) w) :
  Calls Tryz.prog 29 #[.pointer (some ⟨(lW W.ex).getD i 0,0,none⟩)] w λ e w'=>∃r:Wd×List aL,e=.returned (.tuple #[])/\(Fz m (B+128) (C+1) E r.1/\r.1.ts=W.ts/\r.1.z.L=W.z.L++r.2)/\SF w D (wH m bw bm r.1) [] (aW r.2) (wO r.1) w' :=
 (Nj hi hC hB hm hW hA hs).mono λ _ _ ⟨q,e,h,hw⟩=>⟨(W.go q.1 q.2.1,q.2.2),e,⟨h.1,rfl,h.2.1⟩,hw⟩
end
end

/- Shape: every trie of a world is well-formed, and the program's Check says so. -/
section
open Go Go.RowKit Go.Ct
theorem gdx{l:List Int}{k:Nat}(h:k<l.length):l.getD k 0=l[k]:=by simp[List.getD,h]
section
variable{H:ByteArray->Nat}{σ:Kw}
theorem V5(i0:Inv H σ):∀(n:Nat) (i:Int) (w:List Nat) (g:Int),nM σ i w g->12<=w.length+n->T2 σ.mm.nodes σ.mm.cs n i
 | 0,i,w,g,hi,hn=>by have:=(hi.E3 i0).2.2;omega
 | n+1,i,w,g,hi,hn=>by
  obtain⟨r,hb,hm⟩:=Ji i0 hi
  refine⟨r,hb,λ b hx=>?_⟩
  by_cases k3:(σ.nd r).kind=3
  ·have hc:=hm.lK i0 k3
   obtain⟨j,hj,he⟩:=List.mem_iff_getElem.1 (show b∈(σ.nd r).xs from hx)
   obtain⟨h1,h2⟩:=hc.at hj
   rw[gdx hj,he] at h2
   generalize ns (σ.nd r) j=jj at h1 h2
   rcases hc.br _ h1 _ h2 with hb2|hb2
   ·exact .inl hb2.1
   ·exact .inr ⟨hb2.1,V5 i0 n _ (w++[jj]) _ ⟨⟨hb2.1,hb2.2.1⟩,rfl⟩ (by rw[List.length_append,List.length_singleton];omega)⟩
  ·have hxs:=hm.zm i0 k3
   rw[show(cB σ.mm.nodes r).xs=[] from hxs] at hx
   exact nomatch hx
end
theorem SF.qg{w0 w:World}{M:List Nat}{H:List (Nat×Obj)}{A F:Fr}{O:List Ow}{a b c:Ow}{L:List aL}{p:Option Addr}{k:Nat}{T:TypeId}(h:SF w0 M H A F (a::b::⟨p,gR L,k,T,14⟩::c::O) w):L.length<=k:=h.Tq (.tail (.tail .head))
theorem Cg{x:XS}(h:x.Ok):vX x.L:=λ v hv=>by
 have hb:=h.nd v hv
 have h1:=hb.main
 have h2:=hb.prev
 have h3:=hb.status
 have h4:=h.lc
 have e1:v.c.main=v.nd.main:=rfl
 have e2:v.c.prev=v.nd.prev:=rfl
 have e3:v.c.status=v.nd.status:=rfl
 exact⟨hb.bm,by omega,by omega,by omega⟩
structure z7(m:Nat)(z:XS)(t:dZ)(r:Int)(l:List Int):Prop where
 root:gD (z.L.map aL.c) z.cs t.root=some r
 trav:wN z.L z.cs z.gen t.root=some l
 trb:T2 (z.L.map aL.c) z.cs 12 r
 wf:Vv (z.L.map aL.c) z.cs m 12 r [] 0
 sh:B9 z.L
 mn:yY z.L z.cs
 pr:dM z.L z.cs z.gen
 hd:∃t0,l=r::t0
 inl:∀j∈l,(cB (z.L.map aL.c) j).kind=2
theorem Lc{m B C E:Nat}{W:Wd}(h:Fz m B C E W){t:dZ}(ht:t∈W.ts)(hl:W.z.L.length<=274877906944):∃r l,z7 m W.z t r l:=by
 obtain⟨σ,hi⟩:=h.wr.inv
 have i0:=hi.inv
 have e1:σ.mm.nodes=W.z.L.map aL.c:=by rw[hi.mm];rfl
 have e2:σ.mm.cs=W.z.cs:=by rw[hi.mm];rfl
 have e3:σ.mm.gen=W.z.gen:=by rw[hi.mm];rfl
 obtain⟨r,hr,hir⟩:=dq i0 (hi.ts t ht)
 have hig:nM σ r [] (σ.nd r).gen:=⟨hir,rfl⟩
 obtain⟨v,hv,hbl,_⟩:=X9 i0 12 r [] _ [] hig (by decide) (λ j hj=>nomatch hj)
 have hp:dM W.z.L W.z.cs W.z.gen:=by have:=i0.prop;rw[e2,e3] at this;exact this.to e1.symm
 have h1:=V5 i0 12 r [] _ hig (by decide)
 have h2:=V9 i0 12 r [] _ 0 hig (.inl rfl) (by decide)
 have h3:=wb i0 e1 (Cg h.z) h.z.fit hl
 have h4:=tw i0 e1 e2
 have h5:∀j∈v,(cB σ.mm.nodes j).kind=2:=λ j hj=>by
  obtain⟨_,_,hk2,_⟩:=hbl j hj
  exact hk2
 rw[e1,e2] at hr hv h1 h2
 rw[e1] at h5
 rw[List.nil_append] at hv
 obtain⟨t0,ht0⟩:=Ro 12 r [] v hv
 rw[List.nil_append] at ht0
 exact⟨r,v,hr,by rw[qG hp,hr];exact hv,h1,h2,h3,h4,hp,⟨t0,ht0⟩,h5⟩
theorem Ln{m:Nat}{z:XS}{t:dZ}{r:Int}{l:List Int}(k:z7 m z t r l){pn pc:Option Addr}{cn cc:Nat}{w:World}(h:iQ w z.L z.cs pn pc)(hT:Go.Ct.Cl w (some ⟨0,0,none⟩) (oV iS))(hr:vX z.L)(hc:z.cs.length<=274877906944)(hcn:z.L.length<=cn)(hm:m<18446744073709551616)(hi:t.root<=9223372036854775807) :
  Calls Tryz.prog 11 #[sI z.L z.cs z.gen pn cn pc cc,.agg ⟨[.int .i64 t.root,.bool t.ro]⟩,.int .u64 ((m:Nat):Int)] w λ e w'=>e=.returned (.int .i64 0)/\St w [] [] w' :=
 (S7 h hT k.sh k.mn k.pr hr hc hcn hm t.root t.ro hi k.trav k.root k.trb).mono λ e w' ⟨q,e1,h1,hw⟩=>⟨by rw[e1,h1.2 k.wf];rfl,hw.done⟩
end

/- The program's shape, part 8: Quiet, where nothing is pending. -/
section
open Go Go.RowKit Go.Ct
def QuI(L:List aL)(cs:List Int)(x:Int):Prop:=∃i c k p:Nat,x=((i+1:Nat):Int)/\i<L.length/\(aA L ((i+1:Nat):Int)).nd.main=((c+1:Nat):Int)/\c<cs.length/\cs.getD c 0=((k+1:Nat):Int)/\k<L.length/\bU (aA L ((k+1:Nat):Int)).c/\(aA L ((k+1:Nat):Int)).nd.prev=((p+1:Nat):Int)/\p<cs.length/\cs.getD p 0=0
section
variable{L:List aL}{cs:List Int}{gen:Int}{pn pc:Option Addr}{cn cc:Nat}{w:World}
set_option maxRecDepth 100000 in
set_option maxHeartbeats 1000000 in
theorem K7(h:iQ w L cs pn pc)(hr:vX L)(hl:L.length<=274877906944)(hc:cs.length<=274877906944)(hcn:L.length<=cn){cz:Nat}(ro:Bool)(hcz:cz<cs.length){l:List Int}(hn:wN L cs gen ((cz+1:Nat):Int)=some l)(h0:0<l.length)(hroot:cs.getD cz 0=l.getD 0 0)(hq:∀j,j<l.length->QuI L cs (l.getD j 0)) :
  Calls Tryz.prog 13 #[sI L cs gen pn cn pc cc,.agg ⟨[.int .i64 ((cz+1:Nat):Int),.bool ro]⟩] w λ e w'=>e=.returned (.bool true)/\St w [] [] w':=by
 refine enter Tryz.func13 Tryz.ntmps13 rfl rfl h.start ?_
 simp only[cO]
 simp only[sI]
 refine J0 ?_;refine bQ (λ x2=>?_);refine bQ (λ x3=>?_);refine J1 ?_;refine kV ?_;refine bN ?_;refine aC (cF (Fc:=λ x:Option Addr×Nat=>[(x.1,aG l)]) (hc:=λ w1 hw=>wX (hw.vY (.inr (.inl (.head _))) (.inr (.inl (.tail _ (.head _)))) (λ f hf=>.inr (.inl (.tail _ (.tail _ hf)))) h.fit) hr hl hc hcn _ ro (by omega) hn)) (λ x13 h13=>?_);refine Ka8 ?_;refine aR ?_;refine aR ?_;refine fJ [0,1,2,3,4,5,6,7,8,9,10,11,12,13,14,15,16,17,18,19] ?_;refine aU ?_;refine Bl ?_;refine aU ?_
 (refine aU ?_)
 ((refine lN ?_));refine nq ?_;refine aU ?_
 (refine ko 23 (λ g23=>?_) (λ g23=>?_)<;>(try ((exfalso;omega)))<;>((refine aP ?_)))
 ((refine bO ?_));refine xk ?_;((refine tX ?_));((refine bJ (i:=13) (hq:=(cA (lst:=cs) (k:=cz) rf rf fC wn (.bM (.tail .head)) hcz hcz)) (h:=?_)));((refine bJ (i:=14) (hq:=(cW (lst:=cs) (q:=cz) rf wn (.bM (.tail .head)) hcz)) (h:=?_)));((refine aU ?_));((refine bJ (i:=16) (hq:=(cA (lst:=l) (k:=0) rf rf fC wn (.new .head) h0 h0)) (h:=?_)));((refine bJ (i:=17) (hq:=(cW (lst:=l) (q:=0) rf wn (.new .head) h0)) (h:=?_)));((refine Bl ?_));refine iW ?_;refine dS ?_
 refine aZ (λ c35=>?_) (λ c35=>?_)
 ·try (contradiction)
 ·try (first|contradiction|(exfalso;omega))
  refine jM ?_;refine J2 ?_;refine Kb5 ?_
  refine kZ [4,8,9,38,39,40,41,42,43,44,45,46,47,48,49,50,51,52,53,54,55,56,57,58,59,60,61,62,63,64,65,66,67,68,69,70,71,72] (λ y:Nat=>[(38,.int .i64 ((y:Nat):Int))]) (λ y=>y<=l.length) (λ _=>_) (λ _=>[(x13.1,aG l)]) (λ _=>_) (λ y=>l.length-y) (0) (Nat.zero_le _) (λ y f hx=>?_) (hw0:=λ w hw=>hw)
  dsimp only[fY,List.map,List.cons_append,List.nil_append]
  refine Kb3 ?_
  refine aZ (λ c39=>?_) (λ c39=>?_)
  ·try (first|contradiction|(exfalso;omega))
   have hyl:y<l.length:=by omega
   obtain⟨i,c,k,p,q1,q2,q3,q4,q5,q6,q7,q8,q9,q10⟩:=hq y hyl
   rw[fN q2] at q3
   rw[fN q6] at q7 q8
   refine Kc5 ?_;refine aE (cA (lst:=l) (k:=y) rf rf fC wn (.new .head) hyl hyl) rfl ?_;refine aE (cW (lst:=l) (q:=y) rf wn (.new .head) hyl) rfl ?_;refine gQ ?_;refine eG [(0,[]),(1,[]),(2,[]),(3,[]),(4,[]),(5,[]),(6,[]),(7,[]),(8,[]),(9,[]),(10,[]),(11,[]),(12,[]),(13,[]),(14,[]),(15,[]),(16,[]),(17,[1,3,5,8,10,12,13,15,16]),(18,[])] ?_;refine mF ?_;refine mF ?_;refine mF ?_;refine aU ?_;refine tX ?_;refine bJ (i:=8) (hq:=(nC (k:=i) rf (by rw[show((i:Nat):Int)=l.getD y 0-1 by omega];exact rfl) fC fX (.bM .head) q2 q2)) (h:=?_);refine mF ?_;refine tX ?_;refine bJ (i:=12) (hq:=(cA (lst:=cs) (k:=c) rf (by rw[show((c:Nat):Int)=(L.getD i aL.zero).nd.main-1 by omega];exact rfl) fC wn (.bM (.tail .head)) q4 q4)) (h:=?_);refine bJ (i:=13) (hq:=(cW (lst:=cs) (q:=c) rf wn (.bM (.tail .head)) q4)) (h:=?_);refine tX ?_;refine bJ (i:=15) (hq:=(nC (k:=k) rf (by rw[show((k:Nat):Int)=cs.getD c 0-1 by omega];exact rfl) fC fX (.bM .head) q6 q6)) (h:=?_);refine bO ?_;refine fQ (hfire:=(λ _=>by((repeat (first|exact aM.nil|refine aM.cons (by first|exact fA|exact eR (hq:=nC (k:=i) rf (by rw[show((i:Nat):Int)=l.getD y 0-1 by omega];exact rfl) fC fX (.bM .head) q2 q2)|exact eR (hq:=cA (lst:=cs) (k:=c) rf (by rw[show((c:Nat):Int)=(L.getD i aL.zero).nd.main-1 by omega];exact rfl) fC wn (.bM (.tail .head)) q4 q4)|exact eR (hq:=nC (k:=k) rf (by rw[show((k:Nat):Int)=cs.getD c 0-1 by omega];exact rfl) fC fX (.bM .head) q6 q6)) ?_));done))) (h:=λ x9=>?_);refine zO ?_;refine kV ?_;refine aC (c0 (V:=.bool) (hc:=λ w1 hw=>Dv (L.getD k aL.zero).nd w1)) (λ x60 h60=>?_);refine E8 ?_
   (refine eF 62 (λ g62=>?_) (λ g62=>?_)<;>refine Ka1 ?_)
   all_goals (refine zP ?_;(first|refine aH ?_|(refine aF ?_;refine pF ?_));(first|refine aH ?_|(refine aF ?_;refine aE (cA (lst:=cs) (k:=p) rf (by rw[show((p:Nat):Int)=(L.getD k aL.zero).nd.prev-1 by omega];exact rfl) fC wn (.bM (.tail .head)) q9 q9) rfl ?_));(first|refine aH ?_|(refine aF ?_;refine aE (cW (lst:=cs) (q:=p) rf wn (.bM (.tail .head)) q9) rfl ?_));refine Ut ?_;refine aI ?_)
   all_goals
   refine aZ (λ c71=>?_) (λ c71=>?_)
   ·all_goals try (contradiction)
    all_goals refine cQ ?_
    all_goals
     refine aQ Tryz.results13 (λ w hw=>?_)
     first
     | exact⟨rfl,hw.done⟩
     | (exfalso;omega)
     | (exfalso;have h12:=h60.2 q7;rw[h12] at g62;exact absurd g62 (by decide))
     | (exfalso;simp_all;done)
   ·try exact nv c71
    all_goals (refine Kc1 ?_)
    all_goals
     refine fV (y+1) ?_ (hw1:=λ w hw=>hw.v4)
     ·(show y+1<=l.length;omega)
  ·try (first|contradiction|(exfalso;omega))
   refine bF rfl ?_;refine cQ ?_
   refine aQ Tryz.results13 (λ w hw=>?_)
   first
   | exact⟨rfl,hw.done⟩
   | (exfalso;omega)
   | (exfalso;simp_all;done)
end
end

/- Shape: in a world at rest every trie is quiet. -/
section
open Go Go.RowKit Go.Ct
section
variable{H:ByteArray->Nat}{σ:Kw}{L:List aL}{cs:List Int}{M:Mm}{ts:List dZ}
theorem ub(q:QS H M ts σ)(e:M.nodes=L.map aL.c)(ec:M.cs=cs){x:Int}(hx:(cB (L.map aL.c) x).kind=2):QuI L cs x:=by
 have em:=q.mm
 subst em
 have i0:=q.inv
 subst ec
 have en:∀r,cB σ.mm.nodes r=(aA L r).c:=λ r=>by rw[e];exact cI L r
 have hi:(σ.nd x).kind=2:=by show(cB σ.mm.nodes x).kind=2;rw[e];exact hx
 obtain⟨i,hxi,hil⟩:=vO (L:=L) (r:=x) (by rw[hx];decide)
 obtain⟨a1,a2,a3⟩:=i0.dK hi
 have hm:bU (σ.nd (σ.ce (σ.nd x).main)):=((i0.ce _ a1 a2).main x a3).2.1
 obtain⟨b1,b2,_⟩:=i0.iC hm
 obtain⟨c,hc,hcl,hcv⟩:=xV a1 a2
 obtain⟨k,hk,hkl⟩:=vO (L:=L) (r:=σ.ce (σ.nd x).main) (by rw[<- e];exact Jz hm)
 obtain⟨p,hp,hpl,hpv⟩:=xV b1 b2
 have hst:σ.ce (σ.nd (σ.ce (σ.nd x).main)).prev=0:=q.st x hi
 refine⟨i,c,k,p,hxi,hil,?_,hcl,?_,hkl,?_,?_,hpl,?_⟩
 ·have:(σ.nd x).main=(aA L ((i+1:Nat):Int)).nd.main:=by show(cB σ.mm.nodes x).main=_;rw[en,hxi];rfl
  rw[<- this];exact hc
 ·rw[<- hcv];exact hk
 ·have h9:bU (cB σ.mm.nodes (σ.ce (σ.nd x).main)):=hm
  rw[en,hk] at h9;exact h9
 ·have:(σ.nd (σ.ce (σ.nd x).main)).prev=(aA L ((k+1:Nat):Int)).nd.prev:=by show(cB σ.mm.nodes _).prev=_;rw[en,hk];rfl
  rw[<- this];exact hp
 ·rw[<- hpv];exact hst
theorem b8(q:QS H M ts σ)(ec:M.cs=cs){t:dZ}(ht:t∈ts){r:Int}(hr:gD M.nodes M.cs t.root=some r):∃cz:Nat,t.root=((cz+1:Nat):Int)/\cz<cs.length/\cs.getD cz 0=r:=by
 have em:=q.mm
 subst em
 subst ec
 obtain⟨t1,t2,t3⟩:=q.ts t ht
 obtain⟨cz,h1,h2,h3⟩:=xV (cs:=σ.mm.cs) t1 t2
 refine⟨cz,h1,h2,?_⟩
 rw[<- h3]
 have hk:(cB σ.mm.nodes (bV σ.mm.cs t.root)).kind=2:=by
  cases hro:t.ro with
  | false=>rw[hro] at t3;exact q.rt t.root t1 t2 t3
  | true=>rw[hro] at t3;exact((q.inv.ce t.root t1 t2).rort t3).1
 have e9:pI σ.mm.nodes σ.mm.cs t.root=bV σ.mm.cs t.root:=by unfold pI;simp[hk]
 unfold gD at hr
 rw[e9,if_pos hk] at hr
 exact Option.some.inj hr
end
end

/- Shape: Quiet in a world at rest. -/
section
open Go Go.RowKit Go.Ct
theorem V8{H:ByteArray->Nat}{σ:Kw}{ts:List dZ}{m:Nat}{z:XS}{t:dZ}{r:Int}{l:List Int}(q:QS H z.mm ts σ)(ht:t∈ts)(k:z7 m z t r l){pn pc:Option Addr}{cn cc:Nat}{w:World}(h:iQ w z.L z.cs pn pc)(hr:vX z.L)(hc:z.cs.length<=274877906944)(hcn:z.L.length<=cn) :
  Calls Tryz.prog 13 #[sI z.L z.cs z.gen pn cn pc cc,.agg ⟨[.int .i64 t.root,.bool t.ro]⟩] w λ e w'=>e=.returned (.bool true)/\St w [] [] w':=by
 obtain⟨cz,h1,h2,h3⟩:=b8 (cs:=z.cs) q rfl ht k.root
 obtain⟨t0,hl⟩:=k.hd
 have ht:=k.trav
 rw[h1] at ht ⊢
 refine K7 h hr k.sh.len hc hcn t.ro h2 ht (by rw[hl];simp) (by rw[hl];exact h3) λ j hj=>?_
 exact ub (M:=z.mm) (L:=z.L) q rfl rfl (k.inl _ (by rw[gdx hj];exact List.getElem_mem hj))
end

/- Literals of lists that may be changed. -/
end Go.Proofs.YtadnboagdhcedaaGreatDoor
namespace Go.Ct
section
open Go Go.RowKit
section
variable{P:Program}{S:List (Nat×Value)}{G:World->Prop}{d:Nat}{ty t t' e:TypeId}{pos:String}{af:Array Edge}{gd:Option (Nat×Bool)}{x y:Operand}{w0 w:World}{M:List Nat}{H:List (Nat×Obj)}{A F:Fr}{O:List Ow}{a:Option Addr}
theorem SF.aAp{b c sz:Nat}{cs:List Value}{T:TypeId}(h:SF w0 M ((b,.cells ⟨cs⟩ T (0,0))::H) A F O w)(hl:cs.length=c*sz):SF w0 M H A F (⟨some ⟨b,0,none⟩,cs,c,T,sz⟩::O) w:=by
 have hp:(Ks H (⟨some ⟨b,0,none⟩,cs,c,T,sz⟩::O)).Perm (Ks ((b,.cells ⟨cs⟩ T (0,0))::H) O):=by
  unfold Ks
  simp only[List.flatMap_cons,gI,List.map_cons,List.cons_append,List.nil_append]
  exact List.perm_middle
 have hb:=h.st.has (b,.cells ⟨cs⟩ T (0,0)) (List.mem_cons_self ..)
 have hn:=h.st.new (b,.cells ⟨cs⟩ T (0,0)) (List.mem_cons_self ..)
 refine⟨h.st.sub (List.sublist_cons_self ..),λ f hf=>⟨(h.bM f hf).1,λ hc hm=>(h.bM f hf).2 hc (hp.mem_iff.1 hm)⟩,λ f hf=>⟨(h.new f hf).1,λ hc=>⟨λ hm=>((h.new f hf).2 hc).1 (hp.mem_iff.1 hm),((h.new f hf).2 hc).2⟩⟩,λ o ho=>?_,hp.nodup_iff.2 h.dis⟩
 rcases List.mem_cons.1 ho with rfl|ho
 ·refine⟨.inr ⟨b,[],rfl,by simpa using hb,by simpa using hl⟩,λ k hk=>?_⟩
  simp only[gI,List.mem_singleton] at hk
  subst hk
  exact hn.symm
 ·exact h.own o ho
theorem cr{len:Nat}{parts:List (Nat×Operand)}{ps:List (Nat×Value)}{zc cs:List Value}{sz:Nat}(he:dF P t e zc)(hv:iM S parts=ps)(hlen:ps.length=len)(hidx:ps.map Prod.fst=List.range' 0 ps.length)(h1:(ps.all λ p=>Nat.beq (lY p.2).length zc.length)=true)
  (hpos:(Nat.blt 0 len&&Nat.blt 0 zc.length&&Nat.ble (len*zc.length) 16777216)=true) (hcs:Be ps=cs) (hsz:cs.length=len*sz) :
  bI P S (SF w0 M H A F O) ⟨some d,.buildSlice t len ⟨parts⟩,ty,pos,af,gd⟩ Nat (λ b=>.slice (some ⟨b,0,none⟩) len len) (λ b=>SF w0 M H A F (⟨some ⟨b,0,none⟩,cs,len,e,sz⟩::O)) :=
 (sY λ _=>cE he hv hlen hidx h1 hpos hcs).conv λ b w h=>h.aAp hsz
end
end

end Go.Ct
