/- Merged. -/
import Derived.Test.YtbajmaoegmbfgaaGreatGWo1
import Derived.Test.YtbajmaoegmbfgaaGreatGWo4
import Derived.Test.YtbajmaoegmbfgaaGreatGKx8
import Derived.Test.YtbajmaoegmbfgaaGreatGJoin
set_option linter.unusedSimpArgs false
set_option linter.unusedVariables false
namespace Go.Ct
open Go Go.RowKit
section
section
variable{α:Type}
theorem oG.pre:∀(es r:List α),oG (es++r) (List.replicate es.length 0) es r
 | [],r=>.nil
 | a::es,r=>.cons .head (oG.pre es r)
end
theorem Fi{P:Program}{f:FuncId}{vs:Array Value}{X:Type}{V:X->Value}{φ:X->Prop}{w0 w:World}{M:List Nat}{H hs H':List (Nat×Obj)}{A A0 F:Fr}{O os O':List Ow}{hs':X->List (Nat×Obj)}{os':X->List Ow}{Fc:X->Fr}
  (h:SF w0 M H A F O w) (pH:H.Perm (hs++H')) (pO:O.Perm (os++O')) (hA:bG A F O' A0)
  (hc:SF w (Ks hs os) hs A0 [] os w->Calls P f vs w λ e w'=>∃x,e=.returned (V x)/\φ x/\SF w (Ks hs os) (hs' x) [] (Fc x) (os' x) w') :
  Calls P f vs w λ e w'=>∃x,e=.returned (V x)/\φ x/\SF w0 M (hs' x++H') A (Fc x++F) (os' x++O') w':=by
 have h1:=h.perm pH.symm pO.symm;refine(hc (h1.sX (oG.pre hs H') (oG.pre os O') hA)).mono λ e w' ⟨x,e1,hx,hw⟩=>⟨x,e1,hx,?_⟩
 have kperm:∀(a c:List (Nat×Obj)) (b d:List Ow),(Ks (a++c) (b++d)).Perm (Ks a b++Ks c d):=λ a c b d=>by unfold Ks;rw[List.map_append,List.flatMap_append];simp only[List.append_assoc];refine List.Perm.append_left _ ?_;rw[<- List.append_assoc,<- List.append_assoc];exact List.Perm.append_right _ List.perm_append_comm
 have nd0:=(kperm hs H' os O').nodup_iff.1 h1.dis;have disj:∀b∈Ks hs os,b∉Ks H' O':=λ b hb hm=>(List.nodup_append.1 nd0).2.2 b hb b hm rfl
 exact h1.fq (D:=Ks hs os) (Hm:=[]) (Hc:=hs' x) (H1:=H') (Fc:=Fc x) (Om:=[]) (Oc:=os' x) (O1:=O') hw (λ b hb=>(kperm hs H' os O').mem_iff.2 (List.mem_append_left _ hb))
  (λ p hpm=>.inr ⟨List.mem_append_right _ hpm,λ hm=>disj _ hm (eJ.2 (.inl ⟨p,hpm,rfl⟩))⟩)
  (λ o ho=>.inr ⟨List.mem_append_right _ ho,λ b hb hm=>disj _ hm (eJ.2 (.inr ⟨o,ho,hb⟩))⟩)
  (List.nodup_append.1 nd0).2.1
end
end Go.Ct
namespace Go.Proofs.YtbajmaoegmbfgaaGreat
open Go Go.RowKit Go.Ct
section
structure EX where
 b:Nat
 k:Cl
 x:XS
 dn:Bool
 rs:Rs
 R:Tr
structure Wd where
 z:XS
 ts:List dV
 pt:Option Addr
 kt:Nat
 ex:List EX
 pe:Option Addr
 ke:Nat
def Ht(bm:Nat)(l:List EX):List (Nat×Obj):=l.map λ e=>(e.b,xO e.k bm e.x e.dn e.rs)
def Eg(l:List EX):List Ow:=l.flatMap λ e=>[⟨e.x.pg,aH e.x.got,e.x.kg,37,1⟩,⟨e.x.pm,aH e.x.made,e.x.km,37,1⟩,⟨e.x.pl,aH e.x.cel,e.x.kl,27,1⟩,⟨e.x.pe,aH e.x.gns,e.x.ke,3,1⟩]
def oR(l:List EX):List Nat:=l.map EX.b
abbrev wH(m bw bm:Nat)(W:Wd):List (Nat×Obj):=(bw,pI bm (m:Int) W.pt W.ts.length W.kt W.pe (oR W.ex).length W.ke)::(bm,xM W.z)::Ht bm W.ex
abbrev wO(W:Wd):List Ow:=⟨W.pt,vQ W.ts,W.kt,29,2⟩::⟨W.pe,zV (oR W.ex),W.ke,74,1⟩::⟨W.z.pn,jB W.z.L,W.z.cn,47,14⟩::⟨W.z.pc,aH W.z.cs,W.z.cc,37,1⟩::Eg W.ex
def XS.wm(x z:XS):XS:={x with L:=z.L,cs:=z.cs,gen:=z.gen,acc:=z.acc,pn:=z.pn,cn:=z.cn,pc:=z.pc,cc:=z.cc}
theorem aBI{x z z':XS}{N:List aR}(h:(XS.wm x z).Ok)(h':z'.Ok)(e:z'.L=z.L++N):(XS.wm x z').Ok:=by
 have hl:z.L.length<=z'.L.length:=by rw[e,List.length_append];omega
 exact⟨h'.fit,h'.nd,h'.cs,λ v hv=>by have:=h.got v hv;show v<=z'.L.length;have h2:v<=z.L.length:=this;omega,λ v hv=>by have:=h.made v hv;show v<=z'.L.length;have h2:v<=z.L.length:=this;omega,h'.two,h'.lL,h'.lc,h.lg,h.la,h.lm,h.lk,h.le,h.fr,h'.ys,h'.gen0,h.ms,h.m1⟩
theorem tj{z:XS}(h:z.Ok):(XS.new z.L z.cs z.gen z.acc z.pn z.cn z.pc z.cc).Ok :=⟨h.fit,h.nd,h.cs,(λ v hv=>nomatch hv),(λ v hv=>nomatch hv),h.two,h.lL,h.lc,Nat.zero_le _,Nat.le_refl _,Nat.le_refl _,Nat.le_refl _,Nat.le_refl _,Nat.zero_le _,h.ys,h.gen0,(λ i j _ hj=>absurd hj (Nat.not_lt_zero j)),(λ v hv=>nomatch hv)⟩
theorem aAU{T:Tr}{x z z':XS}{dn:Bool}{rs:Rs}{R:Tr}{N:List aR}(h:si T (XS.wm x z) dn rs R)(h':z'.Ok)(e:z'.L=z.L++N):si T (XS.wm x z') dn rs R:=by
 refine⟨aBI h.ok h' e,?_,h.O4⟩;have hw:=h.wk;show Wk (z'.L.map aR.c) T x.got x.made x.cel x.gns R
 rw[e,List.map_append];exact Wk.mono hw
structure EOk(m C:Nat)(z:XS)(e:EX):Prop where
 i:si (T0 e.k m) (XS.wm e.x z) e.dn e.rs e.R
 k:7<=e.k.kind/\e.k.kind<=12
 em:e.k.mask=(m:Int)
 ht:e.k.t.root<=9223372036854775807
 ha:e.k.a=0/\e.k.b=0/\e.k.n=0
 gl:e.x.got.length<=C
theorem EOk.wm{m C:Nat}{z z':XS}{e:EX}{N:List aR}(h:EOk m C z e)(h':z'.Ok)(he:z'.L=z.L++N):EOk m C z' e:=⟨aAU h.i h' he,h.k,h.em,h.ht,h.ha,h.gl⟩
theorem sV{T R:Tr}{x:XS}{dn:Bool}{rs:Rs}(h:si T x dn rs R):dL R=true:=by
 rcases h.O4 with⟨_,e⟩|⟨_,e⟩;·rw[e];rfl
 ·cases R<;>first|rfl|(simp[Tr.acc] at e)
structure E5(m B C E:Nat)(W:Wd):Prop where
 z:W.z.Ok
 sz:Sz W.z B
 ex:∀e∈W.ex,EOk m C W.z e
 t0:0<W.ts.length
 tr:(W.ts.getD 0 ⟨0,false⟩).ro=false
 tl:W.ts.length<=5
 el:W.ex.length<=E
 wr:WR (H8 m) m W.z.mm W.ts (W.ex.map EX.R)
theorem E5.root{m B C E:Nat}{W:Wd}(h:E5 m B C E W)(hB:B<=1000000000000){t:dV}(ht:t∈W.ts):t.root<=9223372036854775807:=by
 obtain⟨σ,hi⟩:=h.wr.inv;have h1:=(hi.ts t ht).2.1;have h2:=h.sz.2.1;have e:σ.cl=W.z.cs.length:=by simp only[Kw.cl,hi.mm];rfl
 omega
theorem L0{m:Nat}{k:Cl}{ts:List dV}(hk:7<=k.kind/\k.kind<=12)(hm:m<18446744073709551616)(ht:k.t∈ts)(hky:k.key∈kC)(hro:wrK k.kind->k.t.ro=false){s:Mm}:∀σ:Kw,σ.mm=s->Inv (H8 m) σ->(∀t∈ts,bX σ t)->Tz (H8 m) σ k (jN k.key m):=λ σ _ _ h =>
 ⟨h _ ht,pK _ _,if_pos hky,hro,.inl hk⟩
section
variable{m B C E bw bm:Nat}{D:List Nat}{A:Fr}{w:World}
set_option maxHeartbeats 1000000 in
theorem xc{W:Wd}{q:Fe}{kind:Int}(steps:Nat)(hst:steps<=1048576)(hC:steps<=C)(hB:B<=100000000000)(hm:m<18446744073709551616)(hW:E5 m B C E W)(hE:E<=900)(hkd:7<=kind/\kind<=12)(hq:Qz kind W.ts q)(hA:∀f∈aP W.z.L,f∈A)(hs:SF w D (wH m bw bm W) A [] (wO W) w) :
  Calls Tryz.prog 67 #[.pointer (some ⟨bw,0,none⟩),.agg ⟨S5 (q.cl kind m)⟩,.int .i64 (steps:Int)] w λ e w'=>∃r:Wd×List aR,e=.returned (.tuple #[])/\(E5 m (B+64+128*steps) C (E+1) r.1/\r.1.z.L=W.z.L++r.2)/\SF w D (wH m bw bm r.1) [] (aP r.2) (wO r.1) w':=by
 have hwt:=hW.root (by omega) hq.mem;have hlen:(oR W.ex).length=W.ex.length:=by simp[oR]
 have hel:=hW.el;have htl:=hW.tl
 have:=Fi (f:=67) (H':=Ht bm W.ex) (O':=Eg W.ex) (hs:=[(bw,pI bm (m:Int) W.pt W.ts.length W.kt W.pe (oR W.ex).length W.ke),(bm,xM W.z)]) (os:=[⟨W.pt,vQ W.ts,W.kt,29,2⟩,⟨W.pe,zV (oR W.ex),W.ke,74,1⟩,⟨W.z.pn,jB W.z.L,W.z.cn,47,14⟩,⟨W.z.pc,aH W.z.cs,W.z.cc,37,1⟩]) (A0:=aP W.z.L) hs (List.Perm.refl _) (List.Perm.refl _) (bG.of λ f hf=>.inr (.inl (hA f hf)))
  (λ h=>aBJ (k:=q.cl kind m) (m:=m) (B:=B) steps hst hB hW.sz (.inr ⟨hkd.1,hkd.2⟩) hm rfl hwt rfl rfl rfl (λ f hf=>hf) (tj hW.z) (by omega) (by omega) h)
 refine this.mono λ e w' ⟨⟨bx,y,kq⟩,e1,⟨hi,his,hk⟩,hw⟩=>?_;replace his:y.i<=steps:=his;replace hi:Jq (q.cl kind m) m (XS.new W.z.L W.z.cs W.z.gen W.z.acc W.z.pn W.z.cn W.z.pc W.z.cc) B y:=hi;have hext:y.x.L=W.z.L++y.N:=hi.ext;obtain⟨j,hrc⟩:=hi.rc
 have hstart:WR (H8 m) m y.x.mm W.ts (y.R::W.ex.map EX.R):=.start hW.wr (L0 hkd hm hq.mem hq.ky hq.ro) hrc (sV hi.ex);have hszy:Sz y.x (B+64+128*steps):=by obtain⟨z1,z2,z3⟩:=hi.sz;exact⟨by omega,by omega,by omega⟩
 have hexs:∀e∈W.ex,EOk m C y.x e:=λ e he=>(hW.ex e he).wm hi.ex.ok hext;rw[List.append_nil] at hw;obtain⟨i,x,N,dn,rs,R⟩:=y
 cases dn with
 | true=>
  rcases hk with⟨hd,_⟩|⟨_,he,hts⟩;·cases hd
  ·have hR:R=.done rs:=by rcases hi.ex.O4 with⟨_,h⟩|⟨h,_⟩;exact h;cases h
   have hL:kq.ts.length<=5/\0<kq.ts.length/\(kq.ts.getD 0 ⟨0,false⟩).ro=false/\WR (H8 m) m x.mm kq.ts (W.ex.map EX.R):=by
    rcases hts with hts|⟨h0,h5,hts⟩;·rw[hts];exact⟨hW.tl,hW.t0,hW.tr,by subst hR;exact hstart.drop⟩
    ·refine⟨h5,by rw[hts];simp,?_,?_⟩;·rw[hts,jA,List.getElem?_append_left hW.t0,<- jA];exact hW.tr
     ·rw[hts];subst hR;exact(hstart.add h0).drop
   refine⟨(⟨x,kq.ts,kq.pt,kq.kt,W.ex,kq.pe,kq.ke⟩,N),e1,⟨⟨hi.ex.ok,hszy,hexs,hL.2.1,hL.2.2.1,hL.1,by show W.ex.length<=E+1;omega,hL.2.2.2⟩,hext⟩,?_⟩;have hes:kq.es=oR W.ex:=he;dsimp only[wH,wO];rw[<- hes];exact hw.noA
 | false=>
  rcases hk with⟨_,he,hts⟩|⟨hd,_⟩
  ·have hes:oR (W.ex++[⟨bx,q.cl kind m,x,false,rs,R⟩])=kq.es:=by rw[he];simp[oR]
   refine⟨(⟨x,kq.ts,kq.pt,kq.kt,W.ex++[⟨bx,q.cl kind m,x,false,rs,R⟩],kq.pe,kq.ke⟩,N),e1,⟨⟨hi.ex.ok,hszy,λ e he=>?_,by rw[show kq.ts=W.ts from hts];exact hW.t0,by rw[show kq.ts=W.ts from hts];exact hW.tr,by rw[show kq.ts=W.ts from hts];exact hW.tl,by simp;omega,?_⟩,hext⟩,?_⟩
   ·rcases List.mem_append.1 he with he|he;·exact hexs e he
    ·rw[List.mem_singleton.1 he];exact⟨hi.ex,hkd,rfl,hwt,⟨rfl,rfl,rfl⟩,by have:=hi.gl;show x.got.length<=C;simp only at this his;omega⟩
   ·rw[show kq.ts=W.ts from hts,List.map_append];exact hstart.perm (List.perm_append_comm (l₁:=[R]))
   ·dsimp only[wH,wO];rw[hes];refine hw.noA.perm ?_ ?_
    ·have e2:Ht bm (W.ex++[⟨bx,q.cl kind m,x,false,rs,R⟩])=Ht bm W.ex++[(bx,xO (q.cl kind m) bm x false rs)]:=by simp[Ht]
     rw[e2];exact(List.perm_append_comm (l₁:=(bw,_)::(bm,_)::Ht bm W.ex) (l₂:=[(bx,xO (q.cl kind m) bm x false rs)]))
    ·have e2:Eg (W.ex++[⟨bx,q.cl kind m,x,false,rs,R⟩])=Eg W.ex++xE4 x false:=by simp[Eg,xE4]
     rw[e2];exact(List.perm_append_comm (l₁:=_::_::_::_::Eg W.ex) (l₂:=xE4 x false))
  ·cases hd
abbrev Wd.go(W:Wd)(z:XS)(ex:List EX):Wd:=⟨z,W.ts,W.pt,W.kt,ex,W.pe,W.ke⟩
def StX(W:Wd)(i:Nat)(z:XS)(ex:List EX):Prop:=∃l1 e e' l2,W.ex=l1++e::l2/\l1.length=i/\ex=l1++e'::l2/\e'.b=e.b/\((e.dn=true/\e'=e)∨(e.dn=false/\∃j,j<=1/\(e'.dn=false->j=1)/\Rc j e.R W.z.mm e'.R z.mm))
variable{i:Nat}{W:Wd}{l1 l2:List EX}{e:EX}
theorem H9{l:List EX}(hi:i<l.length):∃l1 e l2,l=l1++e::l2/\l1.length=i:=by refine⟨l.take i,l[i],l.drop (i+1),?_,by simp;omega⟩;rw[<- List.drop_eq_getElem_cons hi,List.take_append_drop]
theorem aAK(hl:W.ex=l1++e::l2):(wH m bw bm W).Perm (xH e.k e.b bm (XS.wm e.x W.z) e.dn e.rs++((bw,pI bm (m:Int) W.pt W.ts.length W.kt W.pe (oR W.ex).length W.ke)::Ht bm (l1++l2))):=by
 have e1:Ht bm W.ex=Ht bm l1++(e.b,xO e.k bm (XS.wm e.x W.z) e.dn e.rs)::Ht bm l2:=by rw[hl];simp only[Ht,List.map_append,List.map_cons];rfl
 have e2:Ht bm (l1++l2)=Ht bm l1++Ht bm l2:=by simp[Ht]
 dsimp only[wH];rw[e1,e2];refine(List.Perm.swap _ _ _).trans ?_;refine(((List.perm_middle (a:=(e.b,xO e.k bm (XS.wm e.x W.z) e.dn e.rs)) (l₁:=Ht bm l1) (l₂:=Ht bm l2)).cons _).cons _).trans ?_;refine((List.Perm.swap _ _ _).cons _).trans ?_;exact List.Perm.swap _ _ _
theorem aCd(hl:W.ex=l1++e::l2):(wO W).Perm (xW (XS.wm e.x W.z)++(⟨W.pt,vQ W.ts,W.kt,29,2⟩::⟨W.pe,zV (oR W.ex),W.ke,74,1⟩::Eg (l1++l2))):=by
 have e1:Eg W.ex=Eg l1++(Eg [e]++Eg l2):=by rw[hl];simp[Eg]
 have e2:Eg (l1++l2)=Eg l1++Eg l2:=by simp[Eg]
 dsimp only[wO];rw[e1,e2];have hx:xW (XS.wm e.x W.z)=Eg [e]++[⟨W.z.pn,jB W.z.L,W.z.cn,47,14⟩,⟨W.z.pc,aH W.z.cs,W.z.cc,37,1⟩]:=rfl;rw[hx];generalize Eg [e]=oe;generalize Eg l1=o1;generalize Eg l2=o2
 have p1:(o1++(oe++o2)).Perm (oe++(o1++o2)):=by rw[<- List.append_assoc,<- List.append_assoc];exact List.perm_append_comm.append_right _
 refine((((p1.cons _).cons _).cons _).cons _).trans ?_;have p2:∀(a b c d:Ow) (l r:List Ow),(a::b::c::d::(l++r)).Perm (l++[c,d]++(a::b::r)):=λ a b c d l r=>by
  have h1:([a,b]++[c,d]++l++r).Perm (l++[c,d]++[a,b]++r):=by refine List.Perm.append_right r ?_;refine List.perm_append_comm.trans ?_;rw[List.append_assoc];exact List.Perm.append_left l List.perm_append_comm
  simpa using h1
 exact p2 _ _ _ _ _ _
theorem Pp(hi:i<W.ex.length)(hC:C<=1000000000)(hB:B<=100000000000)(hm:m<18446744073709551616)(hW:E5 m B C E W)(hA:∀f∈aP W.z.L,f∈A)(hs:SF w D (wH m bw bm W) A [] (wO W) w) :
  Calls Tryz.prog 68 #[.pointer (some ⟨(oR W.ex).getD i 0,0,none⟩)] w λ e w'=>∃q:XS×List EX×List aR,e=.returned (.tuple #[])/\(E5 m (B+128) (C+1) E (W.go q.1 q.2.1)/\q.1.L=W.z.L++q.2.2/\StX W i q.1 q.2.1)/\SF w D (wH m bw bm (W.go q.1 q.2.1)) [] (aP q.2.2) (wO (W.go q.1 q.2.1)) w':=by
 obtain⟨l1,e,l2,hl,hi1⟩:=H9 hi;have hb:(oR W.ex).getD i 0=e.b:=by rw[hl,<- hi1];simp[oR]
 rw[hb];have he:=hW.ex e (by rw[hl];simp);have hsz:=hW.sz;obtain⟨s1,s2,s3⟩:=hsz
 have hgl:=he.gl;have pH:=aAK (m:=m) (bw:=bw) (bm:=bm) hl;have pO:=aCd hl
 have key:=Fi (f:=68) (A0:=aP W.z.L) hs pH pO (bG.of λ f hf=>.inr (.inl (hA f hf)))
  (λ h=>Uf (x:=XS.wm e.x W.z) (N:=e.x.got.length+1) (n:=1073741824) (m:=m) (mK e.k m (by omega)) (by omega) rfl ⟨by show W.z.L.length<=_;omega,by show W.z.cs.length<=_;omega,by show W.z.gen<=_;omega⟩ he.i (.inr he.k) (Nat.le_refl _) hm he.em he.ht (by rw[he.ha.1];exact bM _) (by rw[he.ha.2.1];exact bM _) (by rw[he.ha.2.2];exact bM _) (λ f hf=>hf) h)
 refine key.mono λ en w' ⟨⟨x',N,dn',rs'⟩,e1,hq,hw⟩=>?_;rw[List.append_nil] at hw;rcases hq with⟨hd,hq⟩|⟨hd,hq⟩
 ·have h1:x'=XS.wm e.x W.z:=congrArg (λ q:XS×List aR×Bool×Rs=>q.1) hq;have h2:N=[]:=congrArg (λ q:XS×List aR×Bool×Rs=>q.2.1) hq;have h3:dn'=true:=congrArg (λ q:XS×List aR×Bool×Rs=>q.2.2.1) hq;have h4:rs'=e.rs:=congrArg (λ q:XS×List aR×Bool×Rs=>q.2.2.2) hq;subst h1 h2 h3 h4;refine⟨(W.z,W.ex,[]),e1,⟨⟨hW.z,⟨by show W.z.L.length<=_;omega,by show W.z.cs.length<=_;omega,by show W.z.gen<=_;omega⟩,λ x hx=>?_,hW.t0,hW.tr,hW.tl,hW.el,hW.wr⟩,by simp,l1,e,e,l2,hl,hi1,hl,rfl,.inl ⟨hd,rfl⟩⟩,?_⟩
  ·have:=hW.ex x hx;exact⟨this.i,this.k,this.em,this.ht,this.ha,by have:=this.gl;omega⟩
  ·have hw2:=hw.noA.perm (H':=wH m bw bm W) (O':=wO W) (by rw[hd] at pH;exact pH) pO;exact hw2
 ·obtain⟨R',j,h1,h2,h3,h4,h5,h6⟩:=tX.exI hq;have hx':XS.wm x' x'=x':=rfl;have hext:x'.L=W.z.L++N:=h5;have hsz':Sz x' (B+128):=Ds he.i hd (mK e.k m (n:=e.x.got.length+1) (by omega)) (Nat.le_refl _) h4 h1 hW.sz
  have hwr:WR (H8 m) m x'.mm W.ts ((l1++⟨e.b,e.k,x',dn',rs',R'⟩::l2).map EX.R):=by have w1:=hW.wr;rw[hl,List.map_append,List.map_cons] at w1;have w2:=(w1.perm List.perm_middle).step h4 (sV h3);rw[List.map_append,List.map_cons];exact w2.perm List.perm_middle.symm
  have hgl':=tX.gl hq;have hexB:oR (l1++⟨e.b,e.k,x',dn',rs',R'⟩::l2)=oR W.ex:=by rw[hl];simp[oR]
  refine⟨(x',l1++⟨e.b,e.k,x',dn',rs',R'⟩::l2,N),e1,⟨⟨h3.ok,hsz',λ y hy=>?_,hW.t0,hW.tr,hW.tl,by have:=hW.el;rw[hl] at this;simpa using this,hwr⟩,hext,l1,e,⟨e.b,e.k,x',dn',rs',R'⟩,l2,hl,hi1,rfl,rfl,.inr ⟨hd,j,h1,h2,h4⟩⟩,?_⟩
  ·rcases List.mem_append.1 hy with hy|hy;·have:=(hW.ex y (by rw[hl];exact List.mem_append_left _ hy)).wm h3.ok hext;exact⟨this.i,this.k,this.em,this.ht,this.ha,by have:=this.gl;omega⟩
   ·rcases List.mem_cons.1 hy with rfl|hy;·exact⟨h3,he.k,he.em,he.ht,he.ha,by show x'.got.length<=C+1;have:x'.got.length<=e.x.got.length+1:=hgl';omega⟩
    ·have:=(hW.ex y (by rw[hl];exact List.mem_append_right _ (List.mem_cons_of_mem _ hy))).wm h3.ok hext;exact⟨this.i,this.k,this.em,this.ht,this.ha,by have:=this.gl;omega⟩
  ·rw[<- hexB] at hw;exact hw.noA.perm (aAK (W:=W.go x' (l1++⟨e.b,e.k,x',dn',rs',R'⟩::l2)) rfl) (aCd (W:=W.go x' (l1++⟨e.b,e.k,x',dn',rs',R'⟩::l2)) rfl)
theorem mv(hi:i<W.ex.length)(hC:C<=1000000000)(hB:B<=100000000000)(hm:m<18446744073709551616)(hW:E5 m B C E W)(hA:∀f∈aP W.z.L,f∈A)(hs:SF w D (wH m bw bm W) A [] (wO W) w) :
  Calls Tryz.prog 68 #[.pointer (some ⟨(oR W.ex).getD i 0,0,none⟩)] w λ e w'=>∃r:Wd×List aR,e=.returned (.tuple #[])/\(E5 m (B+128) (C+1) E r.1/\r.1.ts=W.ts/\r.1.z.L=W.z.L++r.2)/\SF w D (wH m bw bm r.1) [] (aP r.2) (wO r.1) w' :=
 (Pp hi hC hB hm hW hA hs).mono λ _ _ ⟨q,e,h,hw⟩=>⟨(W.go q.1 q.2.1,q.2.2),e,⟨h.1,rfl,h.2.1⟩,hw⟩
end
end
end Go.Proofs.YtbajmaoegmbfgaaGreat
namespace Go.Ct
open Go Go.RowKit
section
section
variable{P:Program}{S:List (Nat×Value)}{G:World->Prop}{d:Nat}{ty t t' e:TypeId}{pos:String}{af:Array Edge}{gd:Option (Nat×Bool)}{x y:Operand}{w0 w:World}{M:List Nat}{H:List (Nat×Obj)}{A F:Fr}{O:List Ow}{a:Option Addr}
theorem SF.aEe{b c sz:Nat}{cs:List Value}{T:TypeId}(h:SF w0 M ((b,.cells ⟨cs⟩ T (0,0))::H) A F O w)(hl:cs.length=c*sz):SF w0 M H A F (⟨some ⟨b,0,none⟩,cs,c,T,sz⟩::O) w:=by
 have hp:(Ks H (⟨some ⟨b,0,none⟩,cs,c,T,sz⟩::O)).Perm (Ks ((b,.cells ⟨cs⟩ T (0,0))::H) O):=by unfold Ks;simp only[List.flatMap_cons,iP,List.map_cons,List.cons_append,List.nil_append];exact List.perm_middle
 have hb:=h.st.has (b,.cells ⟨cs⟩ T (0,0)) (List.mem_cons_self ..);have hn:=h.st.new (b,.cells ⟨cs⟩ T (0,0)) (List.mem_cons_self ..);refine⟨h.st.sub (List.sublist_cons_self ..),λ f hf=>⟨(h.bR f hf).1,λ hc hm=>(h.bR f hf).2 hc (hp.mem_iff.1 hm)⟩,λ f hf=>⟨(h.new f hf).1,λ hc=>⟨λ hm=>((h.new f hf).2 hc).1 (hp.mem_iff.1 hm),((h.new f hf).2 hc).2⟩⟩,λ o ho=>?_,hp.nodup_iff.2 h.dis⟩;rcases List.mem_cons.1 ho with rfl|ho
 ·refine⟨.inr ⟨b,[],rfl,by simpa using hb,by simpa using hl⟩,λ k hk=>?_⟩;simp only[iP,List.mem_singleton] at hk;subst hk;exact hn.symm
 ·exact h.own o ho
theorem Qv{len:Nat}{parts:List (Nat×Operand)}{ps:List (Nat×Value)}{zc cs:List Value}{sz:Nat}(he:dY P t e zc)(hv:kE S parts=ps)(hlen:ps.length=len)(hidx:ps.map Prod.fst=List.range' 0 ps.length)(h1:(ps.all λ p=>Nat.beq (nW p.2).length zc.length)=true)
  (hpos:(Nat.blt 0 len&&Nat.blt 0 zc.length&&Nat.ble (len*zc.length) 16777216)=true) (hcs:D0 ps=cs) (hsz:cs.length=len*sz) :
  bE P S (SF w0 M H A F O) ⟨some d,.buildSlice t len ⟨parts⟩,ty,pos,af,gd⟩ Nat (λ b=>.slice (some ⟨b,0,none⟩) len len) (λ b=>SF w0 M H A F (⟨some ⟨b,0,none⟩,cs,len,e,sz⟩::O)) :=
 (gE λ _=>dF he hv hlen hidx h1 hpos hcs).conv λ b w h=>h.aEe hsz
end
end
end Go.Ct
namespace Go.Proofs.YtbajmaoegmbfgaaGreat
open Go.Proofs.Tryz
open Go Go.RowKit Go.Ct
section
theorem Rt(x y:AX)(acc:Int)(pn:Option Addr)(cn:Nat)(pc:Option Addr)(cc:Nat):(XS.new (L4 x y) [0,3,4] 1 acc pn cn pc cc).Ok:=by
 have hmem:∀v∈L4 x y,v=fG∨v=pW nq [] [] 0 x∨v=pW (aBV 1) [] [] 1 y:=λ v hv=>by simp[L4] at hv;exact hv
 refine⟨λ v hv=>?_,λ v hv=>?_,λ v hv=>?_,(λ v hv=>nomatch hv),(λ v hv=>nomatch hv),by show 2<=4;decide,by show 4<=_;decide,by show 3<=_;decide,Nat.zero_le _,Nat.le_refl _,Nat.le_refl _,Nat.le_refl _,Nat.le_refl _,Nat.zero_le _,λ v hv=>?_,by show(0:Int)<=1;decide,(λ i j _ hj=>absurd hj (Nat.not_lt_zero j)),(λ v hv=>nomatch hv)⟩
 ·rcases hmem v hv with rfl|rfl|rfl;·exact⟨rfl,rfl,by decide,by decide⟩
  ·exact M0 (by decide) (by decide)
  ·exact M0 (by decide) (by decide)
 ·have z:(0:Int)<=((4:Nat):Int):=by decide
  have z3:(0:Int)<=((3:Nat):Int):=by decide
  rcases hmem v hv with rfl|rfl|rfl;·exact⟨z,z,z,(λ r hr=>nomatch hr),z3,z3,z3,jV,jV⟩
  ·exact⟨z,z,z,(λ r hr=>nomatch hr),z3,by show(1:Int)<=((3:Nat):Int);decide,z3,jV,jV⟩
  ·exact⟨z,z,z,(λ r hr=>nomatch hr),by show(2:Int)<=((3:Nat):Int);decide,z3,z3,jV,jV⟩
 ·have hv':v=0∨v=3∨v=4:=by simpa[XS.new] using hv
  show v<=((4:Nat):Int);omega
 ·rcases hmem v hv with rfl|rfl|rfl<;>exact Nat.zero_le _
def kinds:List Int:=[8,8,8,9,9,10,11,12,7,8]
theorem dj{v:Nat}(h:v<10):7<=kinds.getD v 0/\kinds.getD v 0<=12:=by
 have:v=0∨v=1∨v=2∨v=3∨v=4∨v=5∨v=6∨v=7∨v=8∨v=9:=by omega
 rcases this with rfl|rfl|rfl|rfl|rfl|rfl|rfl|rfl|rfl|rfl<;>decide
theorem q7{v:Nat}(h:v<10):∃m:Nat,Br.getD v 0=(m:Int)/\m<18446744073709551616:=by
 have:v=0∨v=1∨v=2∨v=3∨v=4∨v=5∨v=6∨v=7∨v=8∨v=9:=by omega
 refine⟨(Br.getD v 0).toNat,?_⟩;rcases this with rfl|rfl|rfl|rfl|rfl|rfl|rfl|rfl|rfl|rfl<;>decide
theorem E5.mono{m B C E B' C' E':Nat}{W:Wd}(h:E5 m B C E W)(hB:B<=B')(hC:C<=C')(hE:E<=E'):E5 m B' C' E' W:=by obtain⟨s1,s2,s3⟩:=h.sz;exact⟨h.z,⟨by omega,by omega,by omega⟩,λ e he=>by have:=h.ex e he;exact⟨this.i,this.k,this.em,this.ht,this.ha,by have:=this.gl;omega⟩,h.t0,h.tr,h.tl,by have:=h.el;omega,h.wr⟩
section
variable{S:List (Nat×Value)}{w0 w:World}{M:List Nat}{H:List (Nat×Obj)}{A F:Fr}{O:List Ow}{ty:TypeId}{pos:String}{af:Array Edge}{gd:Option (Nat×Bool)}{X:Type}{V:X->Value}
theorem cT(nH nO:Nat){φ:X->Prop}{hs:List (Nat×Obj)}{os:List Ow}{hs' H1:X->List (Nat×Obj)}{os' O1:X->List Ow}{Fc F1:X->Fr}{A0:Fr}{f:FuncId}{xs:List Operand}{at_:Array TypeId}{vs:List Value}{dst:Option Nat}
  (hc:∀w,SF w (Ks hs os) hs A0 [] os w->Calls prog f ⟨vs⟩ w λ e w'=>∃x,e=.returned (V x)/\φ x/\SF w (Ks hs os) (hs' x) [] (Fc x) (os' x) w')
  (hA:bG A F (O.take nO) A0) (hF1:∀x,φ x->∀f∈F1 x,f.2=[]∨f∈Fc x++F)
  (ha:rF S xs=vs:=by(repeat (first|exact cN _|(apply cA;focus ((conv=>{lhs;whnf});try exact rfl))));first|done|fail) (hp:plain prog f=true:=by kernel_rfl)
  (hH:H=H.take nH++hs:=by exact rfl) (hO:O=O.take nO++os:=by exact rfl)
  (hH1:∀x,H.take nH++hs' x=H1 x:=by intro x;simp only[List.take_succ_cons,List.take_zero,List.cons_append,List.nil_append,wH];exact rfl) (hO1:∀x,O.take nO++os' x=O1 x:=by intro x;simp only[List.take_succ_cons,List.take_zero,List.cons_append,List.nil_append,wO];exact rfl) :
  bE prog S (SF w0 M H A F O) ⟨dst,.call {callee:=.value (.func f),args:=⟨xs⟩,argTypes:=at_},ty,pos,af,gd⟩ X V (λ x w=>φ x/\SF w0 M (H1 x) A (F1 x) (O1 x) w) :=
 iE (oZ hp ha) λ w hw=>(Fi (H':=H.take nH) (O':=O.take nO) hw ((List.Perm.of_eq hH).trans List.perm_append_comm) ((List.Perm.of_eq hO).trans List.perm_append_comm) hA (hc w)).mono λ _ _ ⟨x,he,hx,hs⟩=>⟨x,he,hx,by have h2:=(hs.perm (H':=H1 x) (O':=O1 x) (by rw[<- hH1 x];exact List.perm_append_comm) (by rw[<- hO1 x];exact List.perm_append_comm)).fA (hF1 x hx);exact h2⟩
end
theorem A8(l:List EX):(oR l).length=l.length:=by simp[oR]
theorem qh{es:List Nat}{k:Nat}(h:k<es.length):(zV es)[k]?=some (.pointer (some ⟨es.getD k 0,0,none⟩)):=by simp[zV,jA,h]
structure WY where
 i:Nat
 pos:Nat
 W:Wd
structure WYI(m:Nat)(y:WY):Prop where
 hi:y.i<=18
 ok:E5 m (8+134217920*y.i) (1048576+y.i) y.i y.W
theorem Qz.Jh{kind:Int}{ts:List dV}{q:Fe}(h:Qz kind ts q)(p:Int):Qz kind ts {q with Jh:=p}:=⟨h.ky,h.mem,h.ro⟩
set_option maxRecDepth 100000 in
set_option maxHeartbeats 4000000 in
theorem q9{l:List Int}{a:Option Addr}{c:Nat}{w:World}(ha:Go.Ct.Cl w a (aH l))(hl:l.length<=17592186043904) :
  Calls prog 19 #[.slice a l.length c] w λ e w'=>∃q:Nat×Nat×Nat×Wd,e=.returned (.pointer (some ⟨q.1,0,none⟩))/\(q.2.2.1<18446744073709551616/\E5 q.2.2.1 2415922570 1048594 18 q.2.2.2)/\SF w [] (wH q.2.2.1 q.1 q.2.1 q.2.2.2) [] (aP q.2.2.2.z.L) (wO q.2.2.2) w':=by
 refine enter func19 ntmps19 rfl rfl (SF.s1 ha) ?_;simp only[cC];refine Kb4 ?_;refine aD (Zv (Fc:=λ _=>[]) (Oc:=λ _=>[]) (hc:=λ w1 hw=>zb)) (λ x10 h10=>?_);refine J1 ?_;refine J0 ?_;refine aD (Zv (Fc:=λ _=>[]) (hc:=λ w1 hw=>ly w1)) (λ x11 h11=>?_);refine aA ?_;refine aD (zL (hc:=λ w1 hw=>aBO (hw.tape cY fin hl))) (λ x13 h13=>?_);refine bN ?_;refine bL (λ x15=>?_);refine zO ?_;refine dM ?_;refine J3 ?_;refine aD (cM (hc:=λ w hs=>Ph hs)) (λ x21 h21=>?_);refine aN (Qv (sz:=2) (cs:=vQ [⟨3,false⟩]) Hi Ky rfl rfl rfl rfl rfl rfl) (λ x22=>?_);refine O0 ?_;refine aV ?_;refine E9 ?_;obtain⟨m,em,hm⟩:=q7 h13;refine nB [5,6,7,8,25,26,27,28,29,30,31,32,33,34,35,36,37,38,39,40,41,42,43,44,45,46,47,48,49,50,51,52,53,54,55,56,57,58,59,60,61,62,63,64,65,66,67,68,69,70,71,72,73,74,75,76,77,78,79,80,81,82,83,84,85,86,87,88,89,90,91,92,93,94,95,96,97,98] (λ y:WY=>[(5,.int .i64 ((y.i:Nat):Int))]) (λ y=>WYI m y) (λ y=>(x10,S3 a l c y.pos)::(x15,pI x11.1 (m:Int) y.W.pt y.W.ts.length y.W.kt y.W.pe (oR y.W.ex).length y.W.ke)::(x11.1,xM y.W.z)::Ht x11.1 y.W.ex) (λ y=>aP y.W.z.L) (λ y=>⟨y.W.pt,vQ y.W.ts,y.W.kt,29,2⟩::⟨y.W.pe,zV (oR y.W.ex),y.W.ke,74,1⟩::⟨y.W.z.pn,jB y.W.z.L,y.W.z.cn,47,14⟩::⟨y.W.z.pc,aH y.W.z.cs,y.W.z.cc,37,1⟩::Eg y.W.ex) (λ y=>18-y.i) (⟨0,pF l 0,⟨XS.new (L4 x21.1 x21.2.1) [0,3,4] 1 0 x21.2.1.pn x21.2.1.cn x21.2.2.1 x21.2.2.2,[⟨3,false⟩],some ⟨x22,0,none⟩,1,[],none,0⟩⟩) (⟨by show(0:Nat)<=18;decide,Rt _ _ _ _ _ _ _,⟨by show 4<=8+134217920*0;decide,by show 3<=8+134217920*0;decide,by show(1:Int)<=((8+134217920*0:Nat):Int);decide⟩,(λ e he=>nomatch he),by show 0<1;decide,rfl,by show 1<=5;decide,Nat.le_refl _,.new⟩) (λ y f hx=>?_) (hw0:=λ w hw=>by rw[em,List.append_nil] at hw;exact(hw.kQ 74 1).perm (List.perm_append_comm (l₁:=[_]) (l₂:=[_,_])) (List.Perm.swap _ _ _));refine K0a ?_;have hy:=hx;refine kF ?_;refine Au ?_;(refine eF 27 (λ g27=>?_) (λ g27=>?_)<;>refine Ka0 ?_);all_goals ((first|refine aI ?_|(refine aF ?_;refine aD (zL (hc:=λ w1 hw=>aBH (hw.tape cY fin hl))) (λ x29 h29=>?_)));refine cH ?_;refine aG ?_)
 all_goals
 refine bD (λ c30=>?_) (λ c30=>?_)
 ·try exact nv c30
  all_goals (refine sG ?_;refine J0 ?_;refine aN ((by exact Mf (λ _=>dF (cs:=aH kinds) Gh Ky rfl rfl rfl rfl rfl))) (λ x33=>?_);refine aA ?_;refine aD (zL (hc:=λ w1 hw=>fN 10 (hw.tape cY fin hl) (by decide) (by decide))) (λ x35 h35=>?_);refine aC (dS (lst:=kinds) (k:=x35) rf rf gS gB (.new .head) (by omega) (by simp only[kinds,List.length_cons,List.length_nil];omega)) rfl ?_;refine aC (fH (lst:=kinds) (q:=x35) rf gB (.new .head) (by simp only[kinds,List.length_cons,List.length_nil];omega)) rfl ?_;refine jG ?_)
  all_goals
   refine eY [6,38,39,40,41,42,43,44] (λ q:Int×Nat=>[(6,.int .i64 q.1)]) (λ q=>7<=q.1/\q.1<=12) (λ q=>(x10,S3 a l c q.2)::(x15,pI x11.1 (m:Int) y.W.pt y.W.ts.length y.W.kt y.W.pe (oR y.W.ex).length y.W.ke)::(x11.1,xM y.W.z)::Ht x11.1 y.W.ex) (λ _=>aP y.W.z.L) (λ _=>⟨y.W.pt,vQ y.W.ts,y.W.kt,29,2⟩::⟨y.W.pe,zV (oR y.W.ex),y.W.ke,74,1⟩::⟨y.W.z.pn,jB y.W.z.L,y.W.z.cn,47,14⟩::⟨y.W.z.pc,aH y.W.z.cs,y.W.z.cc,37,1⟩::Eg y.W.ex) (by decide) (λ _=>by exact rfl) ?_ (λ q f hx=>?_)
   ·refine aV ?_;refine xN ?_;refine mC ?_;refine aA ?_;(refine eF 40 (λ g40=>?_) (λ g40=>?_)<;>refine Ka0 ?_);all_goals ((first|refine aI ?_|(refine aF ?_;refine aD (zL (hc:=λ w1 hw=>fN 3 (hw.tape cY fin hl) (by decide) (by decide))) (λ x42 h42=>?_)));refine Ka7 ?_)
    all_goals
    refine bD (λ c44=>?_) (λ c44=>?_)
    ·try exact nv c44
     all_goals (refine dU ?_;refine J1 ?_)
     all_goals refine fK ((8,pF l (pF l y.pos))) ?_ (hw1:=λ w hw=>hw.back (hF:=E0p));·exact⟨by show(7:Int)<=8;decide,by show(8:Int)<=12;decide⟩
    ·all_goals try (exfalso;omega)
     all_goals refine aW ?_
     all_goals refine fK (by first|exact((λ _=>(kinds.getD x35 0,pF l (pF l y.pos))) x42)|exact(kinds.getD x35 0,pF l y.pos)) ?_ (hw1:=λ w hw=>hw.back (hF:=aZ.iV λ f hf=>List.mem_cons_of_mem _ hf));·exact dj (by omega)
   refine K0a ?_;have hq:=hx
  all_goals (refine Kc0 ?_;refine aD (cM (hs:=[(x10,S3 a l c q.2),(x15,pI x11.1 (m:Int) y.W.pt y.W.ts.length y.W.kt y.W.pe (oR y.W.ex).length y.W.ke)]) (os:=[⟨y.W.pt,vQ y.W.ts,y.W.kt,29,2⟩]) (A0:=[(a,aH l)]) (hc:=λ w hs=>Yd q.1 hq hl hy.ok.t0 (by have:=hy.ok.tl;omega) hy.ok.tr hs)) (λ x48 h48=>?_);refine aJ (λ x7=>?_);refine J5 ?_;refine aV ?_)
  all_goals
   refine eY [49,50,51,52,53,54,55,56] (λ r:Int×Nat=>[]) (λ r=>True) (λ r=>(x7,.cells ⟨S5 (({x48 with Jh:=r.1}:Fe).cl q.1 (m:Int))⟩ 89 (0,0))::(x10,S3 a l c r.2)::(x15,pI x11.1 (m:Int) y.W.pt y.W.ts.length y.W.kt y.W.pe (oR y.W.ex).length y.W.ke)::(x11.1,xM y.W.z)::Ht x11.1 y.W.ex) (λ _=>aP y.W.z.L) (λ _=>⟨y.W.pt,vQ y.W.ts,y.W.kt,29,2⟩::⟨y.W.pe,zV (oR y.W.ex),y.W.ke,74,1⟩::⟨y.W.z.pn,jB y.W.z.L,y.W.z.cn,47,14⟩::⟨y.W.z.pc,aH y.W.z.cs,y.W.z.cc,37,1⟩::Eg y.W.ex) (by decide) (λ _=>by exact rfl) ?_ (λ r f hx=>?_)
   ·refine aV ?_;refine xN ?_;refine mC ?_;refine aA ?_;(refine eF 51 (λ g51=>?_) (λ g51=>?_)<;>refine Ka0 ?_);all_goals ((first|refine aI ?_|(refine aF ?_;refine aD (zL (hc:=λ w1 hw=>fN 3 (hw.tape cY fin hl) (by decide) (by decide))) (λ x53 h53=>?_)));refine Ka7 ?_)
    all_goals
    refine bD (λ c55=>?_) (λ c55=>?_)
    ·try exact nv c55
     all_goals (refine dU ?_;refine vU ?_)
     all_goals refine fK ((0,pF l x48.pos)) ?_ (hw1:=λ w hw=>hw.v6);·trivial
    ·all_goals try (exfalso;omega)
     all_goals refine aW ?_
     all_goals refine fK (by first|exact((λ _=>(x48.Jh,pF l x48.pos)) x53)|exact(x48.Jh,x48.pos)) ?_ (hw1:=λ w hw=>hw.v6);·trivial
   refine K0a ?_
  all_goals refine Fh ?_
  all_goals
   refine eY [8,57,58,59,60,61,62,63,64,65,66,67,68,69] (λ s:Nat×Nat=>[(8,.int .i64 ((s.1:Nat):Int))]) (λ s=>s.1<=1048576) (λ s=>(x7,.cells ⟨S5 (({x48 with Jh:=r.1}:Fe).cl q.1 (m:Int))⟩ 89 (0,0))::(x10,S3 a l c s.2)::(x15,pI x11.1 (m:Int) y.W.pt y.W.ts.length y.W.kt y.W.pe (oR y.W.ex).length y.W.ke)::(x11.1,xM y.W.z)::Ht x11.1 y.W.ex) (λ _=>aP y.W.z.L) (λ _=>⟨y.W.pt,vQ y.W.ts,y.W.kt,29,2⟩::⟨y.W.pe,zV (oR y.W.ex),y.W.ke,74,1⟩::⟨y.W.z.pn,jB y.W.z.L,y.W.z.cn,47,14⟩::⟨y.W.z.pc,aH y.W.z.cs,y.W.z.cc,37,1⟩::Eg y.W.ex) (by decide) (λ _=>by exact rfl) ?_ (λ s f hx=>?_)
   ·refine aV ?_;refine xN ?_;refine dM ?_;refine Sx ?_;refine Au ?_;(refine eF 63 (λ g63=>?_) (λ g63=>?_)<;>refine Ka0 ?_);all_goals ((first|refine aI ?_|(refine aF ?_;refine aD (zL (hc:=λ w1 hw=>fN 4 (hw.tape cY fin hl) (by decide) (by decide))) (λ x65 h65=>?_)));refine xF ?_;refine aG ?_)
    all_goals
    refine bD (λ c67=>?_) (λ c67=>?_)
    ·try exact nv c67
     all_goals (refine xN ?_;refine aD (zL (hc:=λ w1 hw=>fN 16 (hw.tape cY fin hl) (by decide) (by decide))) (λ x69 h69=>?_);refine J1 ?_)
     all_goals refine fK ((x69,pF l (pF l r.2))) ?_ (hw1:=λ w hw=>hw.v6);·show x69<=1048576;omega
    ·all_goals try (exfalso;omega)
     all_goals refine aW ?_
     all_goals refine fK (by first|exact((λ _=>(1048576,pF l r.2)) x65)|exact(1048576,r.2)) ?_ (hw1:=λ w hw=>hw.v6);·exact Nat.le_refl 1048576
   refine K0a ?_;have hs1:=hx
  all_goals (refine Kb5 ?_;refine aA ?_;refine aD (cT 2 0 (hs:=wH m x15 x11.1 y.W) (os:=wO y.W) (A0:=aP y.W.z.L) (F1:=λ x:Wd×List aR=>aP x.1.z.L) (hc:=λ w hs=>xc (q:={x48 with Jh:=r.1}) (kind:=q.1) s.1 hs1 (by omega) (by omega) hm hy.ok (by omega) hq (h48.Jh _) (λ f hf=>hf) hs) (hA:=E1b) (hF1:=λ x hx f hf=>by rw[hx.2,cU] at hf;exact .inr ((List.mem_append.1 hf).elim (λ h=>List.mem_append_right _ h) (λ h=>List.mem_append_left _ h)))) (λ x73 h73=>?_);refine aG ?_)
  all_goals
   refine eY [74,75,76,77,78,79,80,81,82,83,84,85,86,87,88,89,90,91,92,93,94,95,96,97,98] (λ u:Nat×Wd=>[]) (λ u=>E5 m (8+134217920*(y.i+1)) (1048576+(y.i+1)) (y.i+1) u.2) (λ u=>(x7,.cells ⟨S5 (({x48 with Jh:=r.1}:Fe).cl q.1 (m:Int))⟩ 89 (0,0))::(x10,S3 a l c u.1)::(x15,pI x11.1 (m:Int) u.2.pt u.2.ts.length u.2.kt u.2.pe (oR u.2.ex).length u.2.ke)::(x11.1,xM u.2.z)::Ht x11.1 u.2.ex) (λ u=>aP u.2.z.L) (λ u=>⟨u.2.pt,vQ u.2.ts,u.2.kt,29,2⟩::⟨u.2.pe,zV (oR u.2.ex),u.2.ke,74,1⟩::⟨u.2.z.pn,jB u.2.z.L,u.2.z.cn,47,14⟩::⟨u.2.z.pc,aH u.2.z.cs,u.2.z.cc,37,1⟩::Eg u.2.ex) (by decide) (λ _=>by exact rfl) ?_ (λ u f hx=>?_)
   ·refine aV ?_;refine xN ?_;refine dM ?_;refine Sx ?_;refine En ?_;refine aA ?_;(refine eF 80 (λ g80=>?_) (λ g80=>?_)<;>refine Ka0 ?_);all_goals ((first|refine aI ?_|(refine aF ?_;refine aD (zL (hc:=λ w1 hw=>fN 3 (hw.tape cY fin hl) (by decide) (by decide))) (λ x82 h82=>?_)));refine xF ?_;refine aG ?_)
    all_goals
    refine bD (λ c84=>?_) (λ c84=>?_)
    ·try exact nv c84
     all_goals (refine eM [(0,[]),(1,[]),(2,[]),(3,[]),(4,[]),(5,[]),(6,[]),(7,[]),(8,[]),(9,[]),(10,[3]),(11,[]),(12,[]),(13,[])] ?_;refine ue ?_;refine cg ?_;refine pX ?_;refine bK (i:=10) (hq:=(zL (hc:=λ w1 hw=>fN ((oR x73.1.ex).length:Nat) (hw.tape cY fin hl) (by omega) (by rw[A8];have:=h73.1.el;omega)))) (h:=λ x95 h95=>?_);refine bU (i:=11) (hq:=(mz (cs:=zV (oR x73.1.ex)) (k:=x95) rf rf gS gB (.own (.tail .head)) (by omega) (by rw[Aj];omega))) (h:=?_);refine bU (i:=12) (hq:=(ft (cs:=zV (oR x73.1.ex)) (v:=.pointer (some ⟨(oR x73.1.ex).getD x95 0,0,none⟩)) rf gB (.own (.tail .head)) (qh (by omega)))) (h:=?_);refine bK (i:=13) (hq:=(cT 2 0 (hs:=wH m x15 x11.1 x73.1) (os:=wO x73.1) (A0:=aP x73.1.z.L) (F1:=λ x:Wd×List aR=>aP x.1.z.L) (hc:=λ w hs=>mv (i:=x95) (by rw[<- A8];omega) (by omega) (by omega) hm h73.1 (λ f hf=>hf) hs) (hA:=E1b) (hF1:=λ x hx f hf=>by rw[hx.2.2,cU] at hf;exact .inr ((List.mem_append.1 hf).elim (λ h=>List.mem_append_right _ h) (λ h=>List.mem_append_left _ h))))) (h:=λ x98 h98=>?_);refine eS ?_)
     all_goals refine fK ((pF l (pF l s.2),x98.1)) ?_ (hw1:=λ w hw=>hw.v6);·exact h98.1.mono (by omega) (by omega) (Nat.le_refl _)
    ·all_goals try (exfalso;omega)
     all_goals refine aW ?_
     all_goals refine fK (by first|exact((λ _=>(pF l s.2,x73.1)) x82)|exact(s.2,x73.1)) ?_ (hw1:=λ w hw=>hw.v6);·exact h73.1.mono (by omega) (by omega) (Nat.le_refl _)
   refine K0a ?_
  all_goals (refine Kb2 ?_)
  all_goals refine iX (⟨y.i+1,u.1,u.2⟩) ?_ (hw1:=λ w hw=>hw.v6);·exact⟨by show y.i+1<=18;omega,hx⟩
 ·all_goals try (exfalso;omega)
  all_goals (refine bS rfl ?_;refine Ka5 ?_)
  all_goals refine aS results19 (λ w hw=>?_);exact⟨(x15,x11.1,m,y.W),rfl,⟨hm,hy.ok.mono (by have:=hy.hi;omega) (by have:=hy.hi;omega) hy.hi⟩,hw.bA (hH:=List.Sublist.cons _ (List.Sublist.refl _)) (hF:=by exact aZ.all) (hO:=List.Sublist.refl _)⟩
end
end Go.Proofs.YtbajmaoegmbfgaaGreat
