/- Merged. -/
import Derived.Test.YtbajmaoegmbfgaaGreatGWo1
import Derived.Test.YtbajmaoegmbfgaaGreatGKx8
import Derived.Test.YtbajmaoegmbfgaaGreatGAr8
import Derived.Test.YtbajmaoegmbfgaaGreatGTape3
import Derived.Test.YtbajmaoegmbfgaaGreatGRn1
import Derived.Test.YtbajmaoegmbfgaaGreatGTt1
import Derived.Test.YtbajmaoegmbfgaaGreatGPa1
import Derived.Test.YtbajmaoegmbfgaaGreatGArN
import Derived.Test.YtbajmaoegmbfgaaGreatGTo2
set_option linter.unusedSimpArgs false
set_option linter.unusedVariables false
namespace Go.Ct
open Go Go.RowKit
section
section
variable{α:Type}
theorem mR.pre:∀(es r:List α),mR (es++r) (List.replicate es.length 0) es r
 | [],r=>.nil
 | a::es,r=>.cons .head (mR.pre es r)
end
theorem Fw{P:Program}{f:FuncId}{vs:Array Value}{X:Type}{V:X->Value}{φ:X->Prop}{w0 w:World}{M:List Nat}{H hs H':List (Nat×Obj)}{A A0 F:Fr}{O os O':List Ow}{hs':X->List (Nat×Obj)}{os':X->List Ow}{Fc:X->Fr}
  (h:SF w0 M H A F O w) (pH:H.Perm (hs++H')) (pO:O.Perm (os++O')) (hA:bH A F O' A0)
  (hc:SF w (Ks hs os) hs A0 [] os w->Calls P f vs w λ e w'=>∃x,e=.returned (V x)/\φ x/\SF w (Ks hs os) (hs' x) [] (Fc x) (os' x) w') :
  Calls P f vs w λ e w'=>∃x,e=.returned (V x)/\φ x/\SF w0 M (hs' x++H') A (Fc x++F) (os' x++O') w':=by
 have h1:=h.perm pH.symm pO.symm;refine(hc (h1.rM (mR.pre hs H') (mR.pre os O') hA)).mono λ e w' ⟨x,e1,hx,hw⟩=>⟨x,e1,hx,?_⟩
 have kperm:∀(a c:List (Nat×Obj)) (b d:List Ow),(Ks (a++c) (b++d)).Perm (Ks a b++Ks c d):=λ a c b d=>by unfold Ks;rw[List.map_append,List.flatMap_append];simp only[List.append_assoc];refine List.Perm.append_left _ ?_;rw[<- List.append_assoc,<- List.append_assoc];exact List.Perm.append_right _ List.perm_append_comm
 have nd0:=(kperm hs H' os O').nodup_iff.1 h1.dis;have disj:∀b∈Ks hs os,b∉Ks H' O':=λ b hb hm=>(List.nodup_append.1 nd0).2.2 b hb b hm rfl
 exact h1.j3 (D:=Ks hs os) (Hm:=[]) (Hc:=hs' x) (H1:=H') (Fc:=Fc x) (Om:=[]) (Oc:=os' x) (O1:=O') hw (λ b hb=>(kperm hs H' os O').mem_iff.2 (List.mem_append_left _ hb))
  (λ p hpm=>.inr ⟨List.mem_append_right _ hpm,λ hm=>disj _ hm (eJ.2 (.inl ⟨p,hpm,rfl⟩))⟩)
  (λ o ho=>.inr ⟨List.mem_append_right _ ho,λ b hb hm=>disj _ hm (eJ.2 (.inr ⟨o,ho,hb⟩))⟩)
  (List.nodup_append.1 nd0).2.1
end
end Go.Ct
namespace Go.Proofs.YtbajmaoegmbfgaaGreat
open Go.Proofs.Tryz
section
open Go Go.RowKit Go.Ct
structure EX where
 b:Nat
 k:Cl
 x:XS
 dn:Bool
 rs:Rs
 R:Tr
structure Wd where
 z:XS
 ts:List dW
 pt:Option Addr
 kt:Nat
 ex:List EX
 pe:Option Addr
 ke:Nat
def H7(bm:Nat)(l:List EX):List (Nat×Obj):=l.map λ e=>(e.b,xO e.k bm e.x e.dn e.rs)
def Er(l:List EX):List Ow:=l.flatMap λ e=>[⟨e.x.pg,aH e.x.got,e.x.kg,37,1⟩,⟨e.x.pm,aH e.x.made,e.x.km,37,1⟩,⟨e.x.pl,aH e.x.cel,e.x.kl,27,1⟩,⟨e.x.pe,aH e.x.gns,e.x.ke,3,1⟩]
def pD(l:List EX):List Nat:=l.map EX.b
abbrev wH(m bw bm:Nat)(W:Wd):List (Nat×Obj):=(bw,oY bm (m:Int) W.pt W.ts.length W.kt W.pe (pD W.ex).length W.ke)::(bm,xM W.z)::H7 bm W.ex
abbrev wO(W:Wd):List Ow:=⟨W.pt,uA W.ts,W.kt,29,2⟩::⟨W.pe,yY (pD W.ex),W.ke,74,1⟩::⟨W.z.pn,iH W.z.L,W.z.cn,47,14⟩::⟨W.z.pc,aH W.z.cs,W.z.cc,37,1⟩::Er W.ex
def XS.wm(x z:XS):XS:={x with L:=z.L,cs:=z.cs,gen:=z.gen,acc:=z.acc,pn:=z.pn,cn:=z.cn,pc:=z.pc,cc:=z.cc}
theorem aCu{x z z':XS}{N:List aQ}(h:(XS.wm x z).Ok)(h':z'.Ok)(e:z'.L=z.L++N):(XS.wm x z').Ok:=by
 have hl:z.L.length<=z'.L.length:=by rw[e,List.length_append];omega
 exact⟨h'.fit,h'.nd,h'.cs,λ v hv=>by have:=h.got v hv;show v<=z'.L.length;have h2:v<=z.L.length:=this;omega,λ v hv=>by have:=h.made v hv;show v<=z'.L.length;have h2:v<=z.L.length:=this;omega,h'.two,h'.lL,h'.lc,h.lg,h.la,h.lm,h.lk,h.le,h.fr,h'.ys,h'.gen0,h.ms,h.m1⟩
theorem ui{z:XS}(h:z.Ok):(XS.new z.L z.cs z.gen z.acc z.pn z.cn z.pc z.cc).Ok :=⟨h.fit,h.nd,h.cs,(λ v hv=>nomatch hv),(λ v hv=>nomatch hv),h.two,h.lL,h.lc,Nat.zero_le _,Nat.le_refl _,Nat.le_refl _,Nat.le_refl _,Nat.le_refl _,Nat.zero_le _,h.ys,h.gen0,(λ i j _ hj=>absurd hj (Nat.not_lt_zero j)),(λ v hv=>nomatch hv)⟩
theorem aBP{T:Tr}{x z z':XS}{dn:Bool}{rs:Rs}{R:Tr}{N:List aQ}(h:td T (XS.wm x z) dn rs R)(h':z'.Ok)(e:z'.L=z.L++N):td T (XS.wm x z') dn rs R:=by
 refine⟨aCu h.ok h' e,?_,h.Pk⟩;have hw:=h.wk;show Wk (z'.L.map aQ.c) T x.got x.made x.cel x.gns R
 rw[e,List.map_append];exact Wk.mono hw
structure EOk(m C:Nat)(z:XS)(e:EX):Prop where
 i:td (T0 e.k m) (XS.wm e.x z) e.dn e.rs e.R
 k:7<=e.k.kind/\e.k.kind<=12
 em:e.k.mask=(m:Int)
 ht:e.k.t.root<=9223372036854775807
 ha:e.k.a=0/\e.k.b=0/\e.k.n=0
 gl:e.x.got.length<=C
theorem EOk.wm{m C:Nat}{z z':XS}{e:EX}{N:List aQ}(h:EOk m C z e)(h':z'.Ok)(he:z'.L=z.L++N):EOk m C z' e:=⟨aBP h.i h' he,h.k,h.em,h.ht,h.ha,h.gl⟩
theorem tI{T R:Tr}{x:XS}{dn:Bool}{rs:Rs}(h:td T x dn rs R):dK R=true:=by
 rcases h.Pk with⟨_,e⟩|⟨_,e⟩;·rw[e];rfl
 ·cases R<;>first|rfl|(simp[Tr.acc] at e)
structure Fa(m B C E:Nat)(W:Wd):Prop where
 z:W.z.Ok
 sz:Sz W.z B
 ex:∀e∈W.ex,EOk m C W.z e
 t0:0<W.ts.length
 tr:(W.ts.getD 0 ⟨0,false⟩).ro=false
 tl:W.ts.length<=5
 el:W.ex.length<=E
 wr:WR (H8 m) m W.z.mm W.ts (W.ex.map EX.R)
theorem Fa.root{m B C E:Nat}{W:Wd}(h:Fa m B C E W)(hB:B<=1000000000000){t:dW}(ht:t∈W.ts):t.root<=9223372036854775807:=by
 obtain⟨σ,hi⟩:=h.wr.inv;have h1:=(hi.ts t ht).2.1;have h2:=h.sz.2.1;have e:σ.cl=W.z.cs.length:=by simp only[Kw.cl,hi.mm];rfl
 omega
theorem Lc{m:Nat}{k:Cl}{ts:List dW}(hk:7<=k.kind/\k.kind<=12)(hm:m<18446744073709551616)(ht:k.t∈ts)(hky:k.key∈gT)(hro:wrK k.kind->k.t.ro=false){s:Mm}:∀σ:Kw,σ.mm=s->Inv (H8 m) σ->(∀t∈ts,bY σ t)->Tp (H8 m) σ k (jQ k.key m):=λ σ _ _ h =>
 ⟨h _ ht,pQ _ _,if_pos hky,hro,.inl hk⟩
section
variable{m B C E bw bm:Nat}{D:List Nat}{A:Fr}{w:World}
set_option maxHeartbeats 1000000 in
theorem yp{W:Wd}{q:I8}{kind:Int}(steps:Nat)(hst:steps<=1048576)(hC:steps<=C)(hB:B<=100000000000)(hm:m<18446744073709551616)(hW:Fa m B C E W)(hE:E<=900)(hkd:7<=kind/\kind<=12)(hq:Sr kind W.ts q)(hA:∀f∈aN W.z.L,f∈A)(hs:SF w D (wH m bw bm W) A [] (wO W) w) :
  Calls prog 67 #[.pointer (some ⟨bw,0,none⟩),.agg ⟨Tf (q.cl kind m)⟩,.int .i64 (steps:Int)] w λ e w'=>∃r:Wd×List aQ,e=.returned (.tuple #[])/\(Fa m (B+64+128*steps) C (E+1) r.1/\r.1.z.L=W.z.L++r.2)/\SF w D (wH m bw bm r.1) [] (aN r.2) (wO r.1) w':=by
 have hwt:=hW.root (by omega) hq.mem;have hlen:(pD W.ex).length=W.ex.length:=by simp[pD]
 have hel:=hW.el;have htl:=hW.tl
 have:=Fw (f:=67) (H':=H7 bm W.ex) (O':=Er W.ex) (hs:=[(bw,oY bm (m:Int) W.pt W.ts.length W.kt W.pe (pD W.ex).length W.ke),(bm,xM W.z)]) (os:=[⟨W.pt,uA W.ts,W.kt,29,2⟩,⟨W.pe,yY (pD W.ex),W.ke,74,1⟩,⟨W.z.pn,iH W.z.L,W.z.cn,47,14⟩,⟨W.z.pc,aH W.z.cs,W.z.cc,37,1⟩]) (A0:=aN W.z.L) hs (List.Perm.refl _) (List.Perm.refl _) (bH.of λ f hf=>.inr (.inl (hA f hf)))
  (λ h=>aBh (k:=q.cl kind m) (m:=m) (B:=B) steps hst hB hW.sz (.inr ⟨hkd.1,hkd.2⟩) hm rfl hwt rfl rfl rfl (λ f hf=>hf) (ui hW.z) (by omega) (by omega) h)
 refine this.mono λ e w' ⟨⟨bx,y,kq⟩,e1,⟨hi,his,hk⟩,hw⟩=>?_;replace his:y.i<=steps:=his;replace hi:Ko (q.cl kind m) m (XS.new W.z.L W.z.cs W.z.gen W.z.acc W.z.pn W.z.cn W.z.pc W.z.cc) B y:=hi;have hext:y.x.L=W.z.L++y.N:=hi.ext;obtain⟨j,hrc⟩:=hi.rc
 have hstart:WR (H8 m) m y.x.mm W.ts (y.R::W.ex.map EX.R):=.start hW.wr (Lc hkd hm hq.mem hq.ky hq.ro) hrc (tI hi.ex);have hszy:Sz y.x (B+64+128*steps):=by obtain⟨z1,z2,z3⟩:=hi.sz;exact⟨by omega,by omega,by omega⟩
 have hexs:∀e∈W.ex,EOk m C y.x e:=λ e he=>(hW.ex e he).wm hi.ex.ok hext;rw[List.append_nil] at hw;obtain⟨i,x,N,dn,rs,R⟩:=y
 cases dn with
 | true=>
  rcases hk with⟨hd,_⟩|⟨_,he,hts⟩;·cases hd
  ·have hR:R=.done rs:=by rcases hi.ex.Pk with⟨_,h⟩|⟨h,_⟩;exact h;cases h
   have hL:kq.ts.length<=5/\0<kq.ts.length/\(kq.ts.getD 0 ⟨0,false⟩).ro=false/\WR (H8 m) m x.mm kq.ts (W.ex.map EX.R):=by
    rcases hts with hts|⟨h0,h5,hts⟩;·rw[hts];exact⟨hW.tl,hW.t0,hW.tr,by subst hR;exact hstart.drop⟩
    ·refine⟨h5,by rw[hts];simp,?_,?_⟩;·rw[hts,iX,List.getElem?_append_left hW.t0,<- iX];exact hW.tr
     ·rw[hts];subst hR;exact(hstart.add h0).drop
   refine⟨(⟨x,kq.ts,kq.pt,kq.kt,W.ex,kq.pe,kq.ke⟩,N),e1,⟨⟨hi.ex.ok,hszy,hexs,hL.2.1,hL.2.2.1,hL.1,by show W.ex.length<=E+1;omega,hL.2.2.2⟩,hext⟩,?_⟩;have hes:kq.es=pD W.ex:=he;dsimp only[wH,wO];rw[<- hes];exact hw.noA
 | false=>
  rcases hk with⟨_,he,hts⟩|⟨hd,_⟩
  ·have hes:pD (W.ex++[⟨bx,q.cl kind m,x,false,rs,R⟩])=kq.es:=by rw[he];simp[pD]
   refine⟨(⟨x,kq.ts,kq.pt,kq.kt,W.ex++[⟨bx,q.cl kind m,x,false,rs,R⟩],kq.pe,kq.ke⟩,N),e1,⟨⟨hi.ex.ok,hszy,λ e he=>?_,by rw[show kq.ts=W.ts from hts];exact hW.t0,by rw[show kq.ts=W.ts from hts];exact hW.tr,by rw[show kq.ts=W.ts from hts];exact hW.tl,by simp;omega,?_⟩,hext⟩,?_⟩
   ·rcases List.mem_append.1 he with he|he;·exact hexs e he
    ·rw[List.mem_singleton.1 he];exact⟨hi.ex,hkd,rfl,hwt,⟨rfl,rfl,rfl⟩,by have:=hi.gl;show x.got.length<=C;simp only at this his;omega⟩
   ·rw[show kq.ts=W.ts from hts,List.map_append];exact hstart.perm (List.perm_append_comm (l₁:=[R]))
   ·dsimp only[wH,wO];rw[hes];refine hw.noA.perm ?_ ?_
    ·have e2:H7 bm (W.ex++[⟨bx,q.cl kind m,x,false,rs,R⟩])=H7 bm W.ex++[(bx,xO (q.cl kind m) bm x false rs)]:=by simp[H7]
     rw[e2];exact(List.perm_append_comm (l₁:=(bw,_)::(bm,_)::H7 bm W.ex) (l₂:=[(bx,xO (q.cl kind m) bm x false rs)]))
    ·have e2:Er (W.ex++[⟨bx,q.cl kind m,x,false,rs,R⟩])=Er W.ex++xE4 x false:=by simp[Er,xE4]
     rw[e2];exact(List.perm_append_comm (l₁:=_::_::_::_::Er W.ex) (l₂:=xE4 x false))
  ·cases hd
abbrev Wd.go(W:Wd)(z:XS)(ex:List EX):Wd:=⟨z,W.ts,W.pt,W.kt,ex,W.pe,W.ke⟩
def StX(W:Wd)(i:Nat)(z:XS)(ex:List EX):Prop:=∃l1 e e' l2,W.ex=l1++e::l2/\l1.length=i/\ex=l1++e'::l2/\e'.b=e.b/\((e.dn=true/\e'=e)∨(e.dn=false/\∃j,j<=1/\(e'.dn=false->j=1)/\Rc j e.R W.z.mm e'.R z.mm))
variable{i:Nat}{W:Wd}{l1 l2:List EX}{e:EX}
theorem Js{l:List EX}(hi:i<l.length):∃l1 e l2,l=l1++e::l2/\l1.length=i:=by refine⟨l.take i,l[i],l.drop (i+1),?_,by simp;omega⟩;rw[<- List.drop_eq_getElem_cons hi,List.take_append_drop]
theorem aAV(hl:W.ex=l1++e::l2):(wH m bw bm W).Perm (xH e.k e.b bm (XS.wm e.x W.z) e.dn e.rs++((bw,oY bm (m:Int) W.pt W.ts.length W.kt W.pe (pD W.ex).length W.ke)::H7 bm (l1++l2))):=by
 have e1:H7 bm W.ex=H7 bm l1++(e.b,xO e.k bm (XS.wm e.x W.z) e.dn e.rs)::H7 bm l2:=by rw[hl];simp only[H7,List.map_append,List.map_cons];rfl
 have e2:H7 bm (l1++l2)=H7 bm l1++H7 bm l2:=by simp[H7]
 dsimp only[wH];rw[e1,e2];refine(List.Perm.swap _ _ _).trans ?_;refine(((List.perm_middle (a:=(e.b,xO e.k bm (XS.wm e.x W.z) e.dn e.rs)) (l₁:=H7 bm l1) (l₂:=H7 bm l2)).cons _).cons _).trans ?_;refine((List.Perm.swap _ _ _).cons _).trans ?_;exact List.Perm.swap _ _ _
theorem aBk(hl:W.ex=l1++e::l2):(wO W).Perm (xW (XS.wm e.x W.z)++(⟨W.pt,uA W.ts,W.kt,29,2⟩::⟨W.pe,yY (pD W.ex),W.ke,74,1⟩::Er (l1++l2))):=by
 have e1:Er W.ex=Er l1++(Er [e]++Er l2):=by rw[hl];simp[Er]
 have e2:Er (l1++l2)=Er l1++Er l2:=by simp[Er]
 dsimp only[wO];rw[e1,e2];have hx:xW (XS.wm e.x W.z)=Er [e]++[⟨W.z.pn,iH W.z.L,W.z.cn,47,14⟩,⟨W.z.pc,aH W.z.cs,W.z.cc,37,1⟩]:=rfl;rw[hx];generalize Er [e]=oe;generalize Er l1=o1;generalize Er l2=o2
 have p1:(o1++(oe++o2)).Perm (oe++(o1++o2)):=by rw[<- List.append_assoc,<- List.append_assoc];exact List.perm_append_comm.append_right _
 refine((((p1.cons _).cons _).cons _).cons _).trans ?_;have p2:∀(a b c d:Ow) (l r:List Ow),(a::b::c::d::(l++r)).Perm (l++[c,d]++(a::b::r)):=λ a b c d l r=>by
  have h1:([a,b]++[c,d]++l++r).Perm (l++[c,d]++[a,b]++r):=by refine List.Perm.append_right r ?_;refine List.perm_append_comm.trans ?_;rw[List.append_assoc];exact List.Perm.append_left l List.perm_append_comm
  simpa using h1
 exact p2 _ _ _ _ _ _
theorem Qd(hi:i<W.ex.length)(hC:C<=1000000000)(hB:B<=100000000000)(hm:m<18446744073709551616)(hW:Fa m B C E W)(hA:∀f∈aN W.z.L,f∈A)(hs:SF w D (wH m bw bm W) A [] (wO W) w) :
  Calls prog 68 #[.pointer (some ⟨(pD W.ex).getD i 0,0,none⟩)] w λ e w'=>∃q:XS×List EX×List aQ,e=.returned (.tuple #[])/\(Fa m (B+128) (C+1) E (W.go q.1 q.2.1)/\q.1.L=W.z.L++q.2.2/\StX W i q.1 q.2.1)/\SF w D (wH m bw bm (W.go q.1 q.2.1)) [] (aN q.2.2) (wO (W.go q.1 q.2.1)) w':=by
 obtain⟨l1,e,l2,hl,hi1⟩:=Js hi;have hb:(pD W.ex).getD i 0=e.b:=by rw[hl,<- hi1];simp[pD]
 rw[hb];have he:=hW.ex e (by rw[hl];simp);have hsz:=hW.sz;obtain⟨s1,s2,s3⟩:=hsz
 have hgl:=he.gl;have pH:=aAV (m:=m) (bw:=bw) (bm:=bm) hl;have pO:=aBk hl
 have key:=Fw (f:=68) (A0:=aN W.z.L) hs pH pO (bH.of λ f hf=>.inr (.inl (hA f hf)))
  (λ h=>Vb (x:=XS.wm e.x W.z) (N:=e.x.got.length+1) (n:=1073741824) (m:=m) (nA e.k m (by omega)) (by omega) rfl ⟨by show W.z.L.length<=_;omega,by show W.z.cs.length<=_;omega,by show W.z.gen<=_;omega⟩ he.i (.inr he.k) (Nat.le_refl _) hm he.em he.ht (by rw[he.ha.1];exact bN _) (by rw[he.ha.2.1];exact bN _) (by rw[he.ha.2.2];exact bN _) (λ f hf=>hf) h)
 refine key.mono λ en w' ⟨⟨x',N,dn',rs'⟩,e1,hq,hw⟩=>?_;rw[List.append_nil] at hw;rcases hq with⟨hd,hq⟩|⟨hd,hq⟩
 ·have h1:x'=XS.wm e.x W.z:=congrArg (λ q:XS×List aQ×Bool×Rs=>q.1) hq;have h2:N=[]:=congrArg (λ q:XS×List aQ×Bool×Rs=>q.2.1) hq;have h3:dn'=true:=congrArg (λ q:XS×List aQ×Bool×Rs=>q.2.2.1) hq;have h4:rs'=e.rs:=congrArg (λ q:XS×List aQ×Bool×Rs=>q.2.2.2) hq;subst h1 h2 h3 h4;refine⟨(W.z,W.ex,[]),e1,⟨⟨hW.z,⟨by show W.z.L.length<=_;omega,by show W.z.cs.length<=_;omega,by show W.z.gen<=_;omega⟩,λ x hx=>?_,hW.t0,hW.tr,hW.tl,hW.el,hW.wr⟩,by simp,l1,e,e,l2,hl,hi1,hl,rfl,.inl ⟨hd,rfl⟩⟩,?_⟩
  ·have:=hW.ex x hx;exact⟨this.i,this.k,this.em,this.ht,this.ha,by have:=this.gl;omega⟩
  ·have hw2:=hw.noA.perm (H':=wH m bw bm W) (O':=wO W) (by rw[hd] at pH;exact pH) pO;exact hw2
 ·obtain⟨R',j,h1,h2,h3,h4,h5,h6⟩:=uD.exI hq;have hx':XS.wm x' x'=x':=rfl;have hext:x'.L=W.z.L++N:=h5;have hsz':Sz x' (B+128):=Co he.i hd (nA e.k m (n:=e.x.got.length+1) (by omega)) (Nat.le_refl _) h4 h1 hW.sz
  have hwr:WR (H8 m) m x'.mm W.ts ((l1++⟨e.b,e.k,x',dn',rs',R'⟩::l2).map EX.R):=by have w1:=hW.wr;rw[hl,List.map_append,List.map_cons] at w1;have w2:=(w1.perm List.perm_middle).step h4 (tI h3);rw[List.map_append,List.map_cons];exact w2.perm List.perm_middle.symm
  have hgl':=uD.gl hq;have hexB:pD (l1++⟨e.b,e.k,x',dn',rs',R'⟩::l2)=pD W.ex:=by rw[hl];simp[pD]
  refine⟨(x',l1++⟨e.b,e.k,x',dn',rs',R'⟩::l2,N),e1,⟨⟨h3.ok,hsz',λ y hy=>?_,hW.t0,hW.tr,hW.tl,by have:=hW.el;rw[hl] at this;simpa using this,hwr⟩,hext,l1,e,⟨e.b,e.k,x',dn',rs',R'⟩,l2,hl,hi1,rfl,rfl,.inr ⟨hd,j,h1,h2,h4⟩⟩,?_⟩
  ·rcases List.mem_append.1 hy with hy|hy;·have:=(hW.ex y (by rw[hl];exact List.mem_append_left _ hy)).wm h3.ok hext;exact⟨this.i,this.k,this.em,this.ht,this.ha,by have:=this.gl;omega⟩
   ·rcases List.mem_cons.1 hy with rfl|hy;·exact⟨h3,he.k,he.em,he.ht,he.ha,by show x'.got.length<=C+1;have:x'.got.length<=e.x.got.length+1:=hgl';omega⟩
    ·have:=(hW.ex y (by rw[hl];exact List.mem_append_right _ (List.mem_cons_of_mem _ hy))).wm h3.ok hext;exact⟨this.i,this.k,this.em,this.ht,this.ha,by have:=this.gl;omega⟩
  ·rw[<- hexB] at hw;exact hw.noA.perm (aAV (W:=W.go x' (l1++⟨e.b,e.k,x',dn',rs',R'⟩::l2)) rfl) (aBk (W:=W.go x' (l1++⟨e.b,e.k,x',dn',rs',R'⟩::l2)) rfl)
theorem lz(hi:i<W.ex.length)(hC:C<=1000000000)(hB:B<=100000000000)(hm:m<18446744073709551616)(hW:Fa m B C E W)(hA:∀f∈aN W.z.L,f∈A)(hs:SF w D (wH m bw bm W) A [] (wO W) w) :
  Calls prog 68 #[.pointer (some ⟨(pD W.ex).getD i 0,0,none⟩)] w λ e w'=>∃r:Wd×List aQ,e=.returned (.tuple #[])/\(Fa m (B+128) (C+1) E r.1/\r.1.ts=W.ts/\r.1.z.L=W.z.L++r.2)/\SF w D (wH m bw bm r.1) [] (aN r.2) (wO r.1) w' :=
 (Qd hi hC hB hm hW hA hs).mono λ _ _ ⟨q,e,h,hw⟩=>⟨(W.go q.1 q.2.1,q.2.2),e,⟨h.1,rfl,h.2.1⟩,hw⟩
end
end
section
open Go Go.RowKit Go.Ct
section
variable{L:List aQ}{cs:List Int}{gen:Int}{pn pc:Option Addr}{cn cc:Nat}{w:World}
theorem je(hp:fS L cs gen)(hr:Kn L)(hl:L.length<=274877906944):StB L cs:=by
 have hd:∀x:Int,Fs x L.length->x<=9223372036854775807:=λ x h=>by have:=h.2;omega
 refine⟨λ c=>?_,λ r=>?_,λ r=>?_,λ r=>?_,λ r=>?_,λ r=>?_,λ r=>?_⟩
 ·unfold bK;split;·exact hd _ (hp.cells _ (by omega))
  ·decide
 ·unfold aB;split;·exact hd _ (hp.nodes (r-1).toNat (by omega)).2.2.2.1
  ·decide
 ·unfold aB;split;·exact hd _ (hp.nodes (r-1).toNat (by omega)).2.2.2.2.2
  ·decide
 ·unfold aB;split;·exact(hr _ (fH (by omega))).main
  ·decide
 ·unfold aB;split;·exact(hr _ (fH (by omega))).prev
  ·decide
 ·unfold aB;split;·exact(hr _ (fH (by omega))).status
  ·decide
 ·unfold aB;split;·intro b hb;obtain⟨i,hi,rfl⟩:=List.mem_iff_getElem.1 hb;have:=(hp.nodes (r-1).toNat (by omega)).2.2.1 i hi;rw[iX,List.getElem?_eq_getElem hi] at this;exact hd _ this
  ·intro b hb;cases hb
theorem kx(hp:fS L cs gen)(h:nM w L cs pn pc)(hr:Kn L)(hl:L.length<=274877906944)(hc:cs.length<=274877906944)(c:Int)(ro:Bool){r:Int}(ho:kT (L.map aQ.c) cs c=some r)(hi:c<=9223372036854775807):Calls prog 44 #[Mf L cs gen pn cn pc cc,.agg ⟨[.int .i64 c,.bool ro]⟩] w λ e w'=>e=.returned (.tuple #[.int .i64 r,.bool true])/\St w [] [] w':=by
 refine enter func44 ntmps44 rfl rfl h.start ?_;simp only[cC];simp only[Mf];refine K1i ?_;intro x2 x3;refine J8 ?_;refine aT ?_;refine nJ ?_;refine aD (c0 (V:=.bool) (hc:=λ w1 hw=>P7 (h.K6 hw) hr hl hc)) (λ x7 h7=>?_);refine oG ?_;refine bD (λ c8=>?_) (λ c8=>?_);·rw[h7.2 hp] at c8;cases c8
 ·refine aW ?_;refine nJ ?_;refine bO ?_;refine aP (cV (hc:=λ w1 hw=>wz (h.K6 hw) (je hp hr hl) hl hc c ro hi)) (λ x11=>?_);refine J54 ?_;refine J8 ?_;refine aZ results44 (λ w hw=>?_);exact⟨by rw[ho];rfl,hw.done⟩
end
end
section
open Go Go.RowKit Go.Ct
section
variable{L:List aQ}{cs:List Int}{gen:Int}{pn pc:Option Addr}{cn cc:Nat}{w:World}
theorem Vv(L:List aQ)(r:Int):aB L r=aQ.zero∨∃k,k<L.length/\aB L r=L.getD k aQ.zero:=by
 unfold aB;split;·exact .inr ⟨(r-1).toNat,by omega,rfl⟩
 ·exact .inl rfl
theorem Ho(hp:fS L cs gen)(hr:Kn L)(r:Int):∃b:Nat,b<18446744073709551616/\(aB L r).nd.bm=(b:Int)/\((aB L r).nd.kind=3->(aB L r).xs.length=fQ b 64):=by
 rcases Vv L r with e|⟨k,hk,e⟩;·rw[e];exact⟨0,by decide,rfl,λ h=>absurd h (by decide)⟩
 ·rw[e];obtain⟨b,hb,hlt⟩:=(hr _ (fH hk)).bm;refine⟨b,hlt,hb,λ h3=>?_⟩;have:=(uS h3 (hp.nodes k hk).1).1;rw[hb,nT hlt] at this;omega
theorem G3(hp:fS L cs gen){r:Int}(h:(aB L r).nd.kind≠3):(aB L r).xs=[]:=by
 rcases Vv L r with e|⟨k,hk,e⟩;·rw[e];rfl
 ·rw[e] at h ⊢;exact(hp.nodes k hk).1.1.2.2.2.2.1.trans (if_neg (by simpa using h))
theorem Va(hp:fS L cs gen)(hr:Kn L)(r:Int):(aB L r).xs.length<=64:=by
 by_cases h:(aB L r).nd.kind=3;·obtain⟨b,_,_,h3⟩:=Ho hp hr r;rw[h3 h];exact As _ _
 ·rw[G3 hp h];decide
theorem Sq(hp:fS L cs gen)(hr:Kn L){B:Nat}(hB:∀v∈L,v.ys.length<=B)(hb:(L.length+1)*(B+64)<=549755813888):Few L B:=by
 refine⟨λ r=>⟨?_,Va hp hr r⟩,hb⟩;rcases Vv L r with e|⟨k,hk,e⟩;·rw[e];exact Nat.zero_le _
 ·rw[e];exact hB _ (fH hk)
theorem lu{B:Nat}{wp:Option Addr}{wc:Nat}{o:Option (List Pl×List Pr)}{x:Gy}(h:M5 L B wp wc [] o x):(o=none->x.ok=false)/\∀q,o=some q->x.ok=true/\x.l.map A2.p=q.1/\x.ps=q.2/\(x.own=false->(x.pp,dF x.ps)∈aN L)/\x.l.length<=L.length+1:=by
 refine⟨λ e=>?_,λ q e=>?_⟩;·subst e;exact h.2
 ·subst e;obtain⟨h1,h2,h3,h4,h5,h6,h7⟩:=h.2;refine⟨h1,h2,h3,h5,?_⟩;have:=h6.len;rw[List.nil_append,List.length_map,<- h2,List.length_map] at this;exact this
end
open Classical in
theorem Mg{α:Type}:∀(l m:List α),l.Nodup->(∀a∈l,a∈m)->l.length<=m.length
 | [],_,_,_=>Nat.zero_le _
 | a::l,m,hn,hs=>by
  have hn:=List.nodup_cons.1 hn;have ha:=hs a (List.mem_cons_self ..)
  have:=Mg l (m.erase a) hn.2 λ b hb=>by have hb2:=hs b (List.mem_cons_of_mem _ hb);exact(List.mem_erase_of_ne (λ e=>hn.1 (by rw[<- e];exact hb))).2 hb2
  rw[List.length_erase_of_mem ha] at this;have:=List.length_pos_of_mem ha;simp only[List.length_cons]
  omega
theorem bc{m B C E:Nat}{W:Wd}(h:Fa m B C E W):∀v∈W.z.L,v.ys.length<=8:=by
 obtain⟨σ,hi⟩:=h.wr.inv;have i0:=hi.inv;have e1:σ.mm.nodes=W.z.L.map aQ.c:=by rw[hi.mm];rfl
 have hl:σ.len=W.z.L.length:=by show σ.mm.nodes.length=_;rw[e1,List.length_map]
 intro v hv;obtain⟨k,hk,rfl⟩:=List.mem_iff_getElem.1 hv;have hn:=i0.nd ((k+1:Nat):Int) (by omega) (by omega);have e:σ.nd ((k+1:Nat):Int)=(W.z.L[k]).c:=by simp only[Kw.nd];rw[e1,dH,tC hk,iX,List.getElem?_eq_getElem hk];rfl
 have hy:(σ.nd ((k+1:Nat):Int)).ys=(W.z.L[k]).ys:=by rw[e];rfl
 rw[<- hy];have hval:=hn.valid;by_cases h6:(σ.nd ((k+1:Nat):Int)).kind=6
 ·have hk6:=hn.k6 h6;obtain⟨b,hb,hblt⟩:=hn.bd.hash;have hasc:SA (σ.nd ((k+1:Nat):Int)).ys:=by
   have:=hval.2.2.2.2;have h6':(σ.nd ((k+1:Nat):Int)).nd.kind=6:=h6;rcases this with h|h|h|h|h|h|h
   ·omega
   ·omega
   ·omega
   ·omega
   ·exact nD.1 h.2.2.1
   ·omega
   ·omega
  have hnd:((σ.nd ((k+1:Nat):Int)).ys.map Prod.fst).Nodup:=by unfold List.Nodup;rw[List.pairwise_map];exact hasc.imp λ{a b} hab e=>by rw[e,nG] at hab;cases hab
  have:=Mg _ gT hnd λ q hq=>by obtain⟨p,hp,rfl⟩:=List.mem_map.1 hq;exact(aAa (hk6.2.2.1 p hp) (by omega)).1
  rw[List.length_map] at this;exact this
 ·have:(σ.nd ((k+1:Nat):Int)).ys=[]:=hval.1.2.2.2.2.2.2.2.2.1.trans (if_neg (by have h7:¬(σ.nd ((k+1:Nat):Int)).nd.kind=6:=h6;simpa using h7));rw[this];decide
theorem Rf{m B C E:Nat}{W:Wd}(h:Fa m B C E W){t:dW}(ht:t∈W.ts):∃r q,kT (W.z.L.map aQ.c) W.z.cs t.root=some r/\Bb (W.z.L.map aQ.c) W.z.cs 12 0 0 r [] []=some q/\q.1≠[]/\∀p∈q.1,(bE (W.z.L.map aQ.c) p.i).kind=2/\gQ (W.z.L.map aQ.c) W.z.cs p.i=some p.m:=by
 obtain⟨σ,hi⟩:=h.wr.inv;have i0:=hi.inv;have e1:σ.mm.nodes=W.z.L.map aQ.c:=by rw[hi.mm];rfl
 have e2:σ.mm.cs=W.z.cs:=by rw[hi.mm];rfl
 obtain⟨r,hr,hir⟩:=Mv i0 (hi.ts t ht);obtain⟨q,h1,h2,h3⟩:=qu i0 12 r [] (σ.nd r).gen 0 0 [] [] ⟨hir,rfl⟩ (by decide) (λ j hj=>nomatch hj);rw[e1,e2] at hr h1;refine⟨r,q,hr,h1,h3,λ p hp=>?_⟩;obtain⟨⟨v,_,k2,_⟩,k4⟩:=h2 p hp;rw[e1,e2] at k4;have e3:σ.nd p.i=bE (W.z.L.map aQ.c) p.i:=by rw[<- e1]
 rw[e3] at k2;exact⟨k2,k4⟩
end
end Go.Proofs.YtbajmaoegmbfgaaGreat
namespace Go.Ct
section
def z9(o:Option (List Pl×List Pr))(s:List Int)(v:Option (List Int))(c:List Pr):Prop:=match v with
 | none=>o=none
 | some l=>∃q,o=some q/\l=s++q.1.map Pl.i/\q.2=c
theorem Nu{N:List Nv}{f:Int->List Int->List Int->Option (List Pl×List Pr)}{g:Int->List Int->Option (List Int)}{h:Int->List Pr}(hf:∀b w s,z9 (f b w s) s (g b s) (h b)) :
  ∀(xs way idx:List Int) (j:Nat) (s:List Int),z9 (uY N f way idx xs j s) s (Kb N g xs s) (lK N h xs)
 | [],_,_,_,s=>⟨([],[]),rfl,by simp,rfl⟩
 | b::r,way,idx,j,s=>by
  by_cases h4:(bE N b).kind=4
  ·have ih:=Nu (N:=N) hf r way idx (j+1) s;simp only[uY,Kb,lK,if_pos h4];cases hv:Kb N g r s with
   | none=>rw[hv] at ih;unfold z9 at ih ⊢;simp only at ih ⊢;rw[ih];rfl
   | some l=>rw[hv] at ih;obtain⟨q,e1,e2,e3⟩:=ih;exact⟨(q.1,((bE N b).key,(bE N b).val)::q.2),by rw[e1];rfl,e2,by rw[<- e3];rfl⟩
  by_cases h2:(bE N b).kind=2
  ·have hb:=hf b (way++[idx.getD j 0]) s;simp only[uY,Kb,lK,if_neg h4,if_pos h2];cases hg:g b s with
   | none=>rw[hg] at hb;unfold z9 at hb ⊢;simp only[Option.bind_none] at hb ⊢;rw[hb];rfl
   | some l=>
    rw[hg] at hb;obtain⟨p,e1,e2,e3⟩:=hb;subst e2;have ih:=Nu (N:=N) hf r way idx (j+1) (s++p.1.map Pl.i);simp only[Option.bind_some]
    rw[e1,Option.bind_some];cases hv:Kb N g r (s++p.1.map Pl.i) with
    | none=>rw[hv] at ih;unfold z9 at ih ⊢;simp only at ih ⊢;rw[ih];rfl
    | some l=>rw[hv] at ih;obtain⟨q,f1,f2,f3⟩:=ih;exact⟨(p.1++q.1,p.2++q.2),by rw[f1];rfl,by rw[f2];simp,by rw[<- f3,<- e3]⟩
  ·simp only[uY,Kb,if_neg h4,if_neg h2];rfl
theorem Wv{N:List Nv}{cs:List Int}(hP:∀m,(bE N m).kind=5∨(bE N m).kind=6->(bE N m).xs=[]) :
  ∀(n:Nat) (a:Int) (lv:Nat) (i:Int) (way s:List Int),z9 (Bb N cs n a lv i way s) s (vis N cs n i s) (Ds N cs n i)
 | 0,_,_,_,_,_=>rfl
 | n+1,a,lv,i,way,s=>by
  by_cases hi:i∈s;·rw[Bw hi];unfold vis;rw[if_pos hi];rfl
  cases hb:gQ N cs i with
  | none=>rw[S4 (by rw[hb];rfl)];unfold vis;rw[if_neg hi,hb];rfl
  | some m=>
   have hc:Ds N cs (n+1) i=qM (bE N m)++lK N (Ds N cs n) (bE N m).xs:=by simp only[Ds,hb]
   rw[hc];unfold vis;rw[if_neg hi,hb,Option.bind_some];by_cases h5:(bE N m).kind=5∨(bE N m).kind=6;·rw[B3 hi hb h5,hP m h5];exact⟨_,rfl,rfl,(List.append_nil _).symm⟩
   ·rw[Qk hi hb h5];have ho:qM (bE N m)=[]:=by unfold qM;rw[if_neg (λ e=>h5 (.inl e)),if_neg (λ e=>h5 (.inr e))]
    rw[ho,List.nil_append];have:=Nu (N:=N) (f:=λ b w s=>Bb N cs n i (lv+1) b w s) (g:=vis N cs n) (h:=Ds N cs n) (λ b w s=>Wv hP n i (lv+1) b w s) (bE N m).xs way (rY (bE N m).bm.toNat 64) 0 (s++[i]);cases hv:Kb N (vis N cs n) (bE N m).xs (s++[i]) with
    | none=>rw[hv] at this;unfold z9 at this ⊢;simp only at this ⊢;rw[this];rfl
    | some l=>rw[hv] at this;obtain⟨q,e1,e2,e3⟩:=this;exact⟨(⟨i,m,a,lv,way⟩::q.1,q.2),by rw[e1];rfl,by rw[e2];simp,e3⟩
end
end Go.Ct
namespace Go.Proofs.YtbajmaoegmbfgaaGreat
open Go.Proofs.Tryz
open Go Go.RowKit Go.Ct
section
theorem Zt(h:Nat)(k:ByteArray):Hw h k h k=false:=by have:kX h h=11:=(Ni (l:=11) (by decide) (λ _ _=>rfl) (λ h=>absurd h (by decide))).symm;unfold Hw;rw[this,if_neg (by decide)];exact nG k
theorem ud{L:List aQ}{B:Nat}{wp:Option Addr}{wc:Nat}{o:Option (List Pl×List Pr)}{x:Gy}{q:List Pl×List Pr}(h:M5 L B wp wc [] o x)(ho:o=some q)(hl:x.l.length<=L.length+1):x.ps.length<=(L.length+1)*(B+64):=by subst ho;exact Nat.le_trans h.2.2.2.2.2.2.2 (Nat.mul_le_mul_right _ hl)
theorem wb{N:List Nv}{cs:List Int}(hP:∀m,(bE N m).kind=5∨(bE N m).kind=6->(bE N m).xs=[]){n:Nat}{a i:Int}{lv:Nat}{way s:List Int}{q:List Pl×List Pr}(h:Bb N cs n a lv i way s=some q):q.2=Ds N cs n i:=by
 have:=Wv (cs:=cs) hP n a lv i way s;rw[h] at this;unfold z9 at this;cases hv:vis N cs n i s with
 | none=>rw[hv] at this;cases this
 | some l=>rw[hv] at this;obtain⟨q',e1,_,e3⟩:=this;rw[Option.some.inj e1];exact e3
theorem Qr{H:ByteArray->Nat}{key:ByteArray}:∀{l:List Pr},l.Pairwise (uv H)->∀{v:Int},(key,v)∈l->(l.filter λ p=>decide (p.1=key))=[(key,v)]
 | [],_,_,h=>nomatch h
 | p::l,hp,v,h=>by
  obtain⟨h1,h2⟩:=List.pairwise_cons.1 hp;have hne:∀x y:Pr,uv H x y->x.1=key->¬y.1=key:=λ x y hxy ex ey=>by have:=hxy;unfold uv at this;rw[ex,ey,Zt] at this;cases this
  rcases List.mem_cons.1 h with rfl|h;·rw[List.filter_cons_of_pos (by simp)];congr 1;exact List.filter_eq_nil_iff.2 λ x hx=>by simpa using hne _ x (h1 x hx) rfl
  ·rw[List.filter_cons_of_neg (by simpa using λ e=>hne p (key,v) (h1 _ h) e rfl)];exact Qr h2 h
theorem nl{H:ByteArray->Nat}{key:ByteArray}{l:List Pr}{f:Bool}{v:Int}(hp:l.Pairwise (uv H))(h:FdV key l f v):(cL (zE l) key).isSome=f/\(cL (zE l) key).getD 0=v:=by
 have e:cL (zE l) key=La l key:=by rw[Qq (N4 l),yq]
 rw[e];unfold La;rcases h with⟨rfl,h⟩|⟨rfl,rfl,h⟩;·rw[Qr hp h];exact⟨rfl,rfl⟩
 ·rw[List.filter_eq_nil_iff.2 λ x hx=>by simpa using h x hx];exact⟨rfl,rfl⟩
section
variable{w:World}{L:List aQ}{cs:List Int}{gen:Int}{pn pc:Option Addr}{cn cc:Nat}
theorem Ub(hp:fS L cs gen)(h:nM w L cs pn pc)(hr:Kn L)(hl:L.length<=274877906944)(hc:cs.length<=274877906944){B:Nat}(hB:∀v∈L,v.ys.length<=B)(hBl:(L.length+1)*(B+64)<=549755813888)(c:Int)(ro:Bool)(hi:c<=9223372036854775807){r:Int}(hrt:kT (L.map aQ.c) cs c=some r){q:List Pl×List Pr}(hn:Bb (L.map aQ.c) cs 12 0 0 r [] []=some q):Calls prog 70 #[Mf L cs gen pn cn pc cc,.agg ⟨[.int .i64 c,.bool ro]⟩] w λ e w'=>∃x:Gy,e=.returned (.tuple #[.slice x.lp x.l.length x.lc,.slice x.pp x.ps.length x.pc,.bool true])/\(x.ps=q.2/\(x.own=false->(x.pp,dF x.ps)∈aN L)/\x.ps.length<=(L.length+1)*(B+64))/\SF w [] [] [] x.fr [] w':=by
 have hb:=je hp hr hl;obtain⟨k,rfl,hk⟩:=yt hrt;refine enter func70 ntmps70 rfl rfl h.start ?_;simp only[cC];simp only[Mf];refine K1i ?_;intro x2 x3;refine jC (λ _=>?_);refine J8 ?_;refine nJ ?_;refine bO ?_;refine aP (cV (hc:=λ w1 hw=>kx (gen:=gen) (cn:=cn) (cc:=cc) hp (h.K6 hw) hr hl hc c ro hrt hi)) (λ x14=>?_);refine Kb8 ?_;refine oG ?_;refine bD (λ c18=>?_) (λ c18=>?_);·exact nv c18
 ·refine lB ?_;refine eI [(0,[]),(1,[]),(2,[]),(3,[]),(4,[]),(5,[]),(6,[]),(7,[0]),(8,[]),(9,[]),(10,[]),(11,[]),(12,[]),(13,[]),(14,[]),(15,[])] ?_;refine bV ?_;refine aV ?_;refine gM ?_;refine mE ?_;refine qB ?_;refine ns ?_;refine Py (h:=λ x27=>?_);refine bI (i:=8) (hq:=(cM (hs:=[]) (os:=[yi L x27 (List.replicate (L.length+1) false)]) (hA:=bH.cons (.inr (.inl (.head _))) (bH.cons (.inr (.inl (.tail _ (.head _)))) (bH.cons (.inl rfl) (bH.of λ f hf=>.inr (.inl (.tail _ (.tail _ hf))))))) (hc:=λ w1 hs=>Pm h.fit hb hl hc (Ho hp hr) B x27 (Sq hp hr hB hBl) 12 0 rfl k 0 0 [] none 0 [] _ _ w1 hk rfl (Nat.le_refl _) (Vs.zero _) hs))) (h:=λ x28 h28=>?_);refine aV ?_;refine iJ ?_;refine iJ ?_;refine iJ ?_;refine qN (h:=λ _=>?_);refine Pa ?_;refine jS ?_;refine oG ?_;refine bD (λ c33=>?_) (λ c33=>?_);·exfalso;rw[((lu h28).2 _ hn).1] at c33;simp at c33
  ·refine Bo ?_;refine jC (λ _=>?_);refine J8 ?_;refine aZ results70 (λ w hw=>?_);obtain⟨h1,h2,h3,h4,h5⟩:=(lu h28).2 _ hn;rw[List.append_nil] at hw;exact⟨x28,rfl,⟨h3,h4,ud h28 hn h5⟩,hw.v4⟩
theorem iu(hp:fS L cs gen)(h:nM w L cs pn pc)(hr:Kn L)(hl:L.length<=274877906944)(hc:cs.length<=274877906944){B:Nat}(hB:∀v∈L,v.ys.length<=B)(hBl:(L.length+1)*(B+64)<=549755813888)(c:Int)(ro:Bool)(hi:c<=9223372036854775807){r:Int}(hrt:kT (L.map aQ.c) cs c=some r){q:List Pl×List Pr}(hn:Bb (L.map aQ.c) cs 12 0 0 r [] []=some q):Calls prog 58 #[Mf L cs gen pn cn pc cc,.agg ⟨[.int .i64 c,.bool ro]⟩] w λ e w'=>∃x:Option Addr×Nat×Fr,e=.returned (.tuple #[.slice x.1 q.2.length x.2.1,.int .i64 0])/\(((x.1,dF q.2)∈aN L∨(x.1,dF q.2)∈x.2.2)/\q.2.length<=(L.length+1)*(B+64))/\SF w [] [] [] x.2.2 [] w':=by
 refine enter func58 ntmps58 rfl rfl h.start ?_;simp only[cC];simp only[Mf];refine K1i ?_;intro x2 x3;refine J8 ?_;refine nJ ?_;refine bO ?_;refine aD (Tg (V:=λ x:Gy=>.tuple #[.slice x.lp x.l.length x.lc,.slice x.pp x.ps.length x.pc,.bool true]) (Hc:=λ _=>[]) (Fc:=λ x=>x.fr) (F1:=λ x=>x.fr) (Oc:=λ _=>[]) (hF1:=λ x=>List.append_nil _) (hc:=λ w1 hw=>Ub hp (h.K6 hw) hr hl hc hB hBl c ro hi hrt hn)) (λ x12 h12=>?_);refine Pj ?_;refine D4 ?_;refine jC (λ _=>?_);refine Kb1 ?_;refine oG ?_;refine bD (λ c17=>?_) (λ c17=>?_);·exact nv c17
 ·refine Kb3 ?_;refine J8 ?_;refine aZ results58 (λ w hw=>?_);obtain⟨h1,h2,h3⟩:=h12;rw[<- h1];refine⟨(x12.pp,x12.pc,x12.pf),rfl,⟨?_,h3⟩,(hw.eY (F':=x12.pf) λ f hf=>.inr (show f∈x12.fr from List.mem_cons_of_mem _ (List.mem_append_right _ hf))).v4⟩;cases ho:x12.own with
  | false=>exact .inl (h2 ho)
  | true=>exact .inr (by show _∈x12.pf;unfold Gy.pf;rw[if_pos ho];exact List.mem_cons_self ..)
end
end
section
theorem P1(x y:AX)(acc:Int)(pn:Option Addr)(cn:Nat)(pc:Option Addr)(cc:Nat):(XS.new (L4 x y) [0,3,4] 1 acc pn cn pc cc).Ok:=by
 have hmem:∀v∈L4 x y,v=fG∨v=pP rk [] [] 0 x∨v=pP (aCr 1) [] [] 1 y:=λ v hv=>by simp[L4] at hv;exact hv
 refine⟨λ v hv=>?_,λ v hv=>?_,λ v hv=>?_,(λ v hv=>nomatch hv),(λ v hv=>nomatch hv),by show 2<=4;decide,by show 4<=_;decide,by show 3<=_;decide,Nat.zero_le _,Nat.le_refl _,Nat.le_refl _,Nat.le_refl _,Nat.le_refl _,Nat.zero_le _,λ v hv=>?_,by show(0:Int)<=1;decide,(λ i j _ hj=>absurd hj (Nat.not_lt_zero j)),(λ v hv=>nomatch hv)⟩
 ·rcases hmem v hv with rfl|rfl|rfl;·exact⟨rfl,rfl,by decide,by decide⟩
  ·exact N6 (by decide) (by decide)
  ·exact N6 (by decide) (by decide)
 ·have z:(0:Int)<=((4:Nat):Int):=by decide
  have z3:(0:Int)<=((3:Nat):Int):=by decide
  rcases hmem v hv with rfl|rfl|rfl;·exact⟨z,z,z,(λ r hr=>nomatch hr),z3,z3,z3,jX,jX⟩
  ·exact⟨z,z,z,(λ r hr=>nomatch hr),z3,by show(1:Int)<=((3:Nat):Int);decide,z3,jX,jX⟩
  ·exact⟨z,z,z,(λ r hr=>nomatch hr),by show(2:Int)<=((3:Nat):Int);decide,z3,z3,jX,jX⟩
 ·have hv':v=0∨v=3∨v=4:=by simpa[XS.new] using hv
  show v<=((4:Nat):Int);omega
 ·rcases hmem v hv with rfl|rfl|rfl<;>exact Nat.zero_le _
def kinds:List Int:=[8,8,8,9,9,10,11,12,7,8]
theorem eu{v:Nat}(h:v<10):7<=kinds.getD v 0/\kinds.getD v 0<=12:=by
 have:v=0∨v=1∨v=2∨v=3∨v=4∨v=5∨v=6∨v=7∨v=8∨v=9:=by omega
 rcases this with rfl|rfl|rfl|rfl|rfl|rfl|rfl|rfl|rfl|rfl<;>decide
theorem rh{v:Nat}(h:v<10):∃m:Nat,Bm.getD v 0=(m:Int)/\m<18446744073709551616:=by
 have:v=0∨v=1∨v=2∨v=3∨v=4∨v=5∨v=6∨v=7∨v=8∨v=9:=by omega
 refine⟨(Bm.getD v 0).toNat,?_⟩;rcases this with rfl|rfl|rfl|rfl|rfl|rfl|rfl|rfl|rfl|rfl<;>decide
theorem Fa.mono{m B C E B' C' E':Nat}{W:Wd}(h:Fa m B C E W)(hB:B<=B')(hC:C<=C')(hE:E<=E'):Fa m B' C' E' W:=by obtain⟨s1,s2,s3⟩:=h.sz;exact⟨h.z,⟨by omega,by omega,by omega⟩,λ e he=>by have:=h.ex e he;exact⟨this.i,this.k,this.em,this.ht,this.ha,by have:=this.gl;omega⟩,h.t0,h.tr,h.tl,by have:=h.el;omega,h.wr⟩
section
variable{S:List (Nat×Value)}{w0 w:World}{M:List Nat}{H:List (Nat×Obj)}{A F:Fr}{O:List Ow}{ty:TypeId}{pos:String}{af:Array Edge}{gd:Option (Nat×Bool)}{X:Type}{V:X->Value}
theorem cT(nH nO:Nat){φ:X->Prop}{hs:List (Nat×Obj)}{os:List Ow}{hs' H1:X->List (Nat×Obj)}{os' O1:X->List Ow}{Fc F1:X->Fr}{A0:Fr}{f:FuncId}{xs:List Operand}{at_:Array TypeId}{vs:List Value}{dst:Option Nat}
  (hc:∀w,SF w (Ks hs os) hs A0 [] os w->Calls prog f ⟨vs⟩ w λ e w'=>∃x,e=.returned (V x)/\φ x/\SF w (Ks hs os) (hs' x) [] (Fc x) (os' x) w')
  (hA:bH A F (O.take nO) A0) (hF1:∀x,φ x->∀f∈F1 x,f.2=[]∨f∈Fc x++F)
  (ha:qR S xs=vs:=by(repeat (first|exact cN _|(apply bX;focus ((conv=>{lhs;whnf});try exact rfl))));first|done|fail) (hp:plain prog f=true:=by kernel_rfl)
  (hH:H=H.take nH++hs:=by exact rfl) (hO:O=O.take nO++os:=by exact rfl)
  (hH1:∀x,H.take nH++hs' x=H1 x:=by intro x;simp only[List.take_succ_cons,List.take_zero,List.cons_append,List.nil_append,wH];exact rfl) (hO1:∀x,O.take nO++os' x=O1 x:=by intro x;simp only[List.take_succ_cons,List.take_zero,List.cons_append,List.nil_append,wO];exact rfl) :
  bG prog S (SF w0 M H A F O) ⟨dst,.call {callee:=.value (.func f),args:=⟨xs⟩,argTypes:=at_},ty,pos,af,gd⟩ X V (λ x w=>φ x/\SF w0 M (H1 x) A (F1 x) (O1 x) w) :=
 gW (mY hp ha) λ w hw=>(Fw (H':=H.take nH) (O':=O.take nO) hw ((List.Perm.of_eq hH).trans List.perm_append_comm) ((List.Perm.of_eq hO).trans List.perm_append_comm) hA (hc w)).mono λ _ _ ⟨x,he,hx,hs⟩=>⟨x,he,hx,by have h2:=(hs.perm (H':=H1 x) (O':=O1 x) (by rw[<- hH1 x];exact List.perm_append_comm) (by rw[<- hO1 x];exact List.perm_append_comm)).eY (hF1 x hx);exact h2⟩
end
theorem B5(l:List EX):(pD l).length=l.length:=by simp[pD]
theorem jk{es:List Nat}{k:Nat}(h:k<es.length):(yY es)[k]?=some (.pointer (some ⟨es.getD k 0,0,none⟩)):=by simp[yY,iX,h]
structure WY where
 i:Nat
 pos:Nat
 W:Wd
structure WYI(m:Nat)(y:WY):Prop where
 hi:y.i<=18
 ok:Fa m (8+134217920*y.i) (1048576+y.i) y.i y.W
theorem Sr.Kc{kind:Int}{ts:List dW}{q:I8}(h:Sr kind ts q)(p:Int):Sr kind ts {q with Kc:=p}:=⟨h.ky,h.mem,h.ro⟩
set_option maxRecDepth 100000 in
set_option maxHeartbeats 4000000 in
theorem fk{l:List Int}{a:Option Addr}{c:Nat}{w:World}(ha:Go.Ct.Cl w a (aH l))(hl:l.length<=17592186043904) :
  Calls prog 19 #[.slice a l.length c] w λ e w'=>∃q:Nat×Nat×Nat×Wd,e=.returned (.pointer (some ⟨q.1,0,none⟩))/\(q.2.2.1<18446744073709551616/\Fa q.2.2.1 2415922570 1048594 18 q.2.2.2)/\SF w [] (wH q.2.2.1 q.1 q.2.1 q.2.2.2) [] (aN q.2.2.2.z.L) (wO q.2.2.2) w':=by
 refine enter func19 ntmps19 rfl rfl (SF.s1 ha) ?_;simp only[cC];refine Kb5 ?_;refine aD (Tg (Fc:=λ _=>[]) (Oc:=λ _=>[]) (hc:=λ w1 hw=>aAA)) (λ x10 h10=>?_);refine J1 ?_;refine J0 ?_;refine aD (Tg (Fc:=λ _=>[]) (hc:=λ w1 hw=>sr w1)) (λ x11 h11=>?_);refine aA ?_;refine aD (zB (hc:=λ w1 hw=>aBC (hw.tape cY fin hl))) (λ x13 h13=>?_);refine bM ?_;refine bJ (λ x15=>?_);refine zQ ?_;refine dO ?_;refine J3 ?_;refine aD (cM (hc:=λ w hs=>Sg hs)) (λ x21 h21=>?_);refine aP (Qf (sz:=2) (cs:=uA [⟨3,false⟩]) He Kg rfl rfl rfl rfl rfl rfl) (λ x22=>?_);refine Pd ?_;refine aT ?_;refine Fq ?_;obtain⟨m,em,hm⟩:=rh h13;refine mN [5,6,7,8,25,26,27,28,29,30,31,32,33,34,35,36,37,38,39,40,41,42,43,44,45,46,47,48,49,50,51,52,53,54,55,56,57,58,59,60,61,62,63,64,65,66,67,68,69,70,71,72,73,74,75,76,77,78,79,80,81,82,83,84,85,86,87,88,89,90,91,92,93,94,95,96,97,98] (λ y:WY=>[(5,.int .i64 ((y.i:Nat):Int))]) (λ y=>WYI m y) (λ y=>(x10,U5 a l c y.pos)::(x15,oY x11.1 (m:Int) y.W.pt y.W.ts.length y.W.kt y.W.pe (pD y.W.ex).length y.W.ke)::(x11.1,xM y.W.z)::H7 x11.1 y.W.ex) (λ y=>aN y.W.z.L) (λ y=>⟨y.W.pt,uA y.W.ts,y.W.kt,29,2⟩::⟨y.W.pe,yY (pD y.W.ex),y.W.ke,74,1⟩::⟨y.W.z.pn,iH y.W.z.L,y.W.z.cn,47,14⟩::⟨y.W.z.pc,aH y.W.z.cs,y.W.z.cc,37,1⟩::Er y.W.ex) (λ y=>18-y.i) (⟨0,pN l 0,⟨XS.new (L4 x21.1 x21.2.1) [0,3,4] 1 0 x21.2.1.pn x21.2.1.cn x21.2.2.1 x21.2.2.2,[⟨3,false⟩],some ⟨x22,0,none⟩,1,[],none,0⟩⟩) (⟨by show(0:Nat)<=18;decide,P1 _ _ _ _ _ _ _,⟨by show 4<=8+134217920*0;decide,by show 3<=8+134217920*0;decide,by show(1:Int)<=((8+134217920*0:Nat):Int);decide⟩,(λ e he=>nomatch he),by show 0<1;decide,rfl,by show 1<=5;decide,Nat.le_refl _,.new⟩) (λ y f hx=>?_) (hw0:=λ w hw=>by rw[em,List.append_nil] at hw;exact(hw.kQ 74 1).perm (List.perm_append_comm (l₁:=[_]) (l₂:=[_,_])) (List.Perm.swap _ _ _));refine K0a ?_;have hy:=hx;refine jS ?_;refine A1 ?_;(refine eE 27 (λ g27=>?_) (λ g27=>?_)<;>refine Ka0 ?_);all_goals ((first|refine aI ?_|(refine aF ?_;refine aD (zB (hc:=λ w1 hw=>aCh (hw.tape cY fin hl))) (λ x29 h29=>?_)));refine Kd8 ?_)
 all_goals
 refine bD (λ c30=>?_) (λ c30=>?_)
 ·try exact nv c30
  all_goals (refine rT ?_;refine J0 ?_;refine aP ((by exact Kk (λ _=>cW (cs:=aH kinds) Il Kg rfl rfl rfl rfl rfl))) (λ x33=>?_);refine aA ?_;refine aD (zB (hc:=λ w1 hw=>fO 10 (hw.tape cY fin hl) (by decide) (by decide))) (λ x35 h35=>?_);refine aC (dR (lst:=kinds) (k:=x35) rf rf gS fW (.new .head) (by omega) (by simp only[kinds,List.length_cons,List.length_nil];omega)) rfl ?_;refine aC (fI (lst:=kinds) (q:=x35) rf fW (.new .head) (by simp only[kinds,List.length_cons,List.length_nil];omega)) rfl ?_;refine jG ?_)
  all_goals
   refine eR [6,38,39,40,41,42,43,44] (λ q:Int×Nat=>[(6,.int .i64 q.1)]) (λ q=>7<=q.1/\q.1<=12) (λ q=>(x10,U5 a l c q.2)::(x15,oY x11.1 (m:Int) y.W.pt y.W.ts.length y.W.kt y.W.pe (pD y.W.ex).length y.W.ke)::(x11.1,xM y.W.z)::H7 x11.1 y.W.ex) (λ _=>aN y.W.z.L) (λ _=>⟨y.W.pt,uA y.W.ts,y.W.kt,29,2⟩::⟨y.W.pe,yY (pD y.W.ex),y.W.ke,74,1⟩::⟨y.W.z.pn,iH y.W.z.L,y.W.z.cn,47,14⟩::⟨y.W.z.pc,aH y.W.z.cs,y.W.z.cc,37,1⟩::Er y.W.ex) (by decide) (λ _=>by exact rfl) ?_ (λ q f hx=>?_)
   ·refine aT ?_;refine yG ?_;refine mJ ?_;refine aA ?_;(refine eE 40 (λ g40=>?_) (λ g40=>?_)<;>refine Ka0 ?_);all_goals ((first|refine aI ?_|(refine aF ?_;refine aD (zB (hc:=λ w1 hw=>fO 3 (hw.tape cY fin hl) (by decide) (by decide))) (λ x42 h42=>?_)));refine Ka8 ?_)
    all_goals
    refine bD (λ c44=>?_) (λ c44=>?_)
    ·try exact nv c44
     all_goals (refine dS ?_;refine J1 ?_)
     all_goals refine fC ((8,pN l (pN l y.pos))) ?_ (hw1:=λ w hw=>hw.back (hF:=E0n));·exact⟨by show(7:Int)<=8;decide,by show(8:Int)<=12;decide⟩
    ·all_goals try (exfalso;omega)
     all_goals refine aW ?_
     all_goals refine fC (by first|exact((λ _=>(kinds.getD x35 0,pN l (pN l y.pos))) x42)|exact(kinds.getD x35 0,pN l y.pos)) ?_ (hw1:=λ w hw=>hw.back (hF:=bA.iT λ f hf=>List.mem_cons_of_mem _ hf));·exact eu (by omega)
   refine K0a ?_;have hq:=hx
  all_goals (refine Kc4 ?_;refine aD (cM (hs:=[(x10,U5 a l c q.2),(x15,oY x11.1 (m:Int) y.W.pt y.W.ts.length y.W.kt y.W.pe (pD y.W.ex).length y.W.ke)]) (os:=[⟨y.W.pt,uA y.W.ts,y.W.kt,29,2⟩]) (A0:=[(a,aH l)]) (hc:=λ w hs=>uo q.1 hq hl hy.ok.t0 (by have:=hy.ok.tl;omega) hy.ok.tr hs)) (λ x48 h48=>?_);refine aJ (λ x7=>?_);refine J5 ?_;refine aT ?_)
  all_goals
   refine eR [49,50,51,52,53,54,55,56] (λ r:Int×Nat=>[]) (λ r=>True) (λ r=>(x7,.cells ⟨Tf (({x48 with Kc:=r.1}:I8).cl q.1 (m:Int))⟩ 89 (0,0))::(x10,U5 a l c r.2)::(x15,oY x11.1 (m:Int) y.W.pt y.W.ts.length y.W.kt y.W.pe (pD y.W.ex).length y.W.ke)::(x11.1,xM y.W.z)::H7 x11.1 y.W.ex) (λ _=>aN y.W.z.L) (λ _=>⟨y.W.pt,uA y.W.ts,y.W.kt,29,2⟩::⟨y.W.pe,yY (pD y.W.ex),y.W.ke,74,1⟩::⟨y.W.z.pn,iH y.W.z.L,y.W.z.cn,47,14⟩::⟨y.W.z.pc,aH y.W.z.cs,y.W.z.cc,37,1⟩::Er y.W.ex) (by decide) (λ _=>by exact rfl) ?_ (λ r f hx=>?_)
   ·refine aT ?_;refine yG ?_;refine mJ ?_;refine aA ?_;(refine eE 51 (λ g51=>?_) (λ g51=>?_)<;>refine Ka0 ?_);all_goals ((first|refine aI ?_|(refine aF ?_;refine aD (zB (hc:=λ w1 hw=>fO 3 (hw.tape cY fin hl) (by decide) (by decide))) (λ x53 h53=>?_)));refine Ka8 ?_)
    all_goals
    refine bD (λ c55=>?_) (λ c55=>?_)
    ·try exact nv c55
     all_goals (refine dS ?_;refine vO ?_)
     all_goals refine fC ((0,pN l x48.pos)) ?_ (hw1:=λ w hw=>hw.v6);·trivial
    ·all_goals try (exfalso;omega)
     all_goals refine aW ?_
     all_goals refine fC (by first|exact((λ _=>(x48.Kc,pN l x48.pos)) x53)|exact(x48.Kc,x48.pos)) ?_ (hw1:=λ w hw=>hw.v6);·trivial
   refine K0a ?_
  all_goals refine Je ?_
  all_goals
   refine eR [8,57,58,59,60,61,62,63,64,65,66,67,68,69] (λ s:Nat×Nat=>[(8,.int .i64 ((s.1:Nat):Int))]) (λ s=>s.1<=1048576) (λ s=>(x7,.cells ⟨Tf (({x48 with Kc:=r.1}:I8).cl q.1 (m:Int))⟩ 89 (0,0))::(x10,U5 a l c s.2)::(x15,oY x11.1 (m:Int) y.W.pt y.W.ts.length y.W.kt y.W.pe (pD y.W.ex).length y.W.ke)::(x11.1,xM y.W.z)::H7 x11.1 y.W.ex) (λ _=>aN y.W.z.L) (λ _=>⟨y.W.pt,uA y.W.ts,y.W.kt,29,2⟩::⟨y.W.pe,yY (pD y.W.ex),y.W.ke,74,1⟩::⟨y.W.z.pn,iH y.W.z.L,y.W.z.cn,47,14⟩::⟨y.W.z.pc,aH y.W.z.cs,y.W.z.cc,37,1⟩::Er y.W.ex) (by decide) (λ _=>by exact rfl) ?_ (λ s f hx=>?_)
   ·refine aT ?_;refine yG ?_;refine dO ?_;refine Pb ?_;refine A1 ?_;(refine eE 63 (λ g63=>?_) (λ g63=>?_)<;>refine Ka0 ?_);all_goals ((first|refine aI ?_|(refine aF ?_;refine aD (zB (hc:=λ w1 hw=>fO 4 (hw.tape cY fin hl) (by decide) (by decide))) (λ x65 h65=>?_)));refine vY ?_;refine aG ?_)
    all_goals
    refine bD (λ c67=>?_) (λ c67=>?_)
    ·try exact nv c67
     all_goals (refine yG ?_;refine aD (zB (hc:=λ w1 hw=>fO 16 (hw.tape cY fin hl) (by decide) (by decide))) (λ x69 h69=>?_);refine J1 ?_)
     all_goals refine fC ((x69,pN l (pN l r.2))) ?_ (hw1:=λ w hw=>hw.v6);·show x69<=1048576;omega
    ·all_goals try (exfalso;omega)
     all_goals refine aW ?_
     all_goals refine fC (by first|exact((λ _=>(1048576,pN l r.2)) x65)|exact(1048576,r.2)) ?_ (hw1:=λ w hw=>hw.v6);·exact Nat.le_refl 1048576
   refine K0a ?_;have hs1:=hx
  all_goals (refine J2 ?_;refine Kd0 ?_;refine aD (cT 2 0 (hs:=wH m x15 x11.1 y.W) (os:=wO y.W) (A0:=aN y.W.z.L) (F1:=λ x:Wd×List aQ=>aN x.1.z.L) (hc:=λ w hs=>yp (q:={x48 with Kc:=r.1}) (kind:=q.1) s.1 hs1 (by omega) (by omega) hm hy.ok (by omega) hq (h48.Kc _) (λ f hf=>hf) hs) (hA:=E1b) (hF1:=λ x hx f hf=>by rw[hx.2,cX] at hf;exact .inr ((List.mem_append.1 hf).elim (λ h=>List.mem_append_right _ h) (λ h=>List.mem_append_left _ h)))) (λ x73 h73=>?_);refine aG ?_)
  all_goals
   refine eR [74,75,76,77,78,79,80,81,82,83,84,85,86,87,88,89,90,91,92,93,94,95,96,97,98] (λ u:Nat×Wd=>[]) (λ u=>Fa m (8+134217920*(y.i+1)) (1048576+(y.i+1)) (y.i+1) u.2) (λ u=>(x7,.cells ⟨Tf (({x48 with Kc:=r.1}:I8).cl q.1 (m:Int))⟩ 89 (0,0))::(x10,U5 a l c u.1)::(x15,oY x11.1 (m:Int) u.2.pt u.2.ts.length u.2.kt u.2.pe (pD u.2.ex).length u.2.ke)::(x11.1,xM u.2.z)::H7 x11.1 u.2.ex) (λ u=>aN u.2.z.L) (λ u=>⟨u.2.pt,uA u.2.ts,u.2.kt,29,2⟩::⟨u.2.pe,yY (pD u.2.ex),u.2.ke,74,1⟩::⟨u.2.z.pn,iH u.2.z.L,u.2.z.cn,47,14⟩::⟨u.2.z.pc,aH u.2.z.cs,u.2.z.cc,37,1⟩::Er u.2.ex) (by decide) (λ _=>by exact rfl) ?_ (λ u f hx=>?_)
   ·refine aT ?_;refine yG ?_;refine dO ?_;refine Pb ?_;refine Eo ?_;refine aA ?_;(refine eE 80 (λ g80=>?_) (λ g80=>?_)<;>refine Ka0 ?_);all_goals ((first|refine aI ?_|(refine aF ?_;refine aD (zB (hc:=λ w1 hw=>fO 3 (hw.tape cY fin hl) (by decide) (by decide))) (λ x82 h82=>?_)));refine vY ?_;refine aG ?_)
    all_goals
    refine bD (λ c84=>?_) (λ c84=>?_)
    ·try exact nv c84
     all_goals (refine eI [(0,[]),(1,[]),(2,[]),(3,[]),(4,[]),(5,[]),(6,[]),(7,[]),(8,[]),(9,[]),(10,[3]),(11,[]),(12,[]),(13,[])] ?_;refine sm ?_;refine dj ?_;refine qB ?_;refine bI (i:=10) (hq:=(zB (hc:=λ w1 hw=>fO ((pD x73.1.ex).length:Nat) (hw.tape cY fin hl) (by omega) (by rw[B5];have:=h73.1.el;omega)))) (h:=λ x95 h95=>?_);refine bU (i:=11) (hq:=(Xg (cs:=yY (pD x73.1.ex)) (k:=x95) rf rf gS fW (.own (.tail .head)) (by omega) (by rw[Ax];omega))) (h:=?_);refine bU (i:=12) (hq:=(Xk (cs:=yY (pD x73.1.ex)) (v:=.pointer (some ⟨(pD x73.1.ex).getD x95 0,0,none⟩)) rf fW (.own (.tail .head)) (jk (by omega)))) (h:=?_);refine bI (i:=13) (hq:=(cT 2 0 (hs:=wH m x15 x11.1 x73.1) (os:=wO x73.1) (A0:=aN x73.1.z.L) (F1:=λ x:Wd×List aQ=>aN x.1.z.L) (hc:=λ w hs=>lz (i:=x95) (by rw[<- B5];omega) (by omega) (by omega) hm h73.1 (λ f hf=>hf) hs) (hA:=E1b) (hF1:=λ x hx f hf=>by rw[hx.2.2,cX] at hf;exact .inr ((List.mem_append.1 hf).elim (λ h=>List.mem_append_right _ h) (λ h=>List.mem_append_left _ h))))) (h:=λ x98 h98=>?_);refine eN ?_)
     all_goals refine fC ((pN l (pN l s.2),x98.1)) ?_ (hw1:=λ w hw=>hw.v6);·exact h98.1.mono (by omega) (by omega) (Nat.le_refl _)
    ·all_goals try (exfalso;omega)
     all_goals refine aW ?_
     all_goals refine fC (by first|exact((λ _=>(pN l s.2,x73.1)) x82)|exact(s.2,x73.1)) ?_ (hw1:=λ w hw=>hw.v6);·exact h73.1.mono (by omega) (by omega) (Nat.le_refl _)
   refine K0a ?_
  all_goals (refine Kb6 ?_)
  all_goals refine iS (⟨y.i+1,u.1,u.2⟩) ?_ (hw1:=λ w hw=>hw.v6);·exact⟨by show y.i+1<=18;omega,hx⟩
 ·all_goals try (exfalso;omega)
  all_goals (refine bR rfl ?_;refine Ka4 ?_)
  all_goals refine aS results19 (λ w hw=>?_);exact⟨(x15,x11.1,m,y.W),rfl,⟨hm,hy.ok.mono (by have:=hy.hi;omega) (by have:=hy.hi;omega) hy.hi⟩,hw.bB (hH:=List.Sublist.cons _ (List.Sublist.refl _)) (hF:=by exact bA.all) (hO:=List.Sublist.refl _)⟩
end
section
def Te(ex:List EX)(i:Nat):Bool:=(ex.map EX.dn).getD i true
def rE(ex:List EX)(i:Nat):Tr:=(ex.map EX.R).getD i .stuck
section
variable{m B C E bw bm:Nat}{D:List Nat}{A:Fr}{w:World}{H:ByteArray->Nat}
theorem Au{α β:Type}(f:α->β)(l1 l2:List α)(e:α)(d:β):((l1++e::l2).map f).getD l1.length d=f e:=by simp
theorem aBo{α β:Type}(f:α->β)(l1 l2:List α)(e e':α)(d:β){k:Nat}(hk:k≠l1.length):((l1++e::l2).map f).getD k d=((l1++e'::l2).map f).getD k d:=by
 simp only[List.map_append,List.map_cons,iX];by_cases h:k<l1.length;·rw[List.getElem?_append_left (by simpa using h),List.getElem?_append_left (by simpa using h)]
 ·rw[List.getElem?_append_right (by simpa using h),List.getElem?_append_right (by simpa using h)];obtain⟨j,hj⟩:∃j,k-(l1.map f).length=j+1:=⟨k-l1.length-1,by rw[List.length_map];omega⟩;rw[hj];rfl
theorem mh{W:Wd}{i:Nat}(hi:i<W.ex.length)(hs:SF w D (wH m bw bm W) A [] (wO W) w) :
  Calls prog 69 #[.pointer (some ⟨(pD W.ex).getD i 0,0,none⟩)] w λ e w'=>∃q:Unit,e=.returned (.bool (Te W.ex i))/\True/\SF w D (wH m bw bm W) [] [] (wO W) w':=by
 obtain⟨l1,e,l2,hl,hi1⟩:=Js hi;have hb:(pD W.ex).getD i 0=e.b:=by rw[hl,<- hi1];exact Au _ _ _ _ _
 have hd:Te W.ex i=e.dn:=by unfold Te;rw[hl,<- hi1];exact Au _ _ _ _ _
 rw[hb,hd];have pH:=aAV (m:=m) (bw:=bw) (bm:=bm) hl;have pO:=aBk hl;have key:=Fw (P:=prog) (f:=69) (vs := #[.pointer (some ⟨e.b,0,none⟩)]) (V:=λ _:Unit=>.bool e.dn) (φ:=λ _=>True) (hs:=xH e.k e.b bm (XS.wm e.x W.z) e.dn e.rs) (os:=xW (XS.wm e.x W.z)) (hs':=λ _=>xH e.k e.b bm (XS.wm e.x W.z) e.dn e.rs) (os':=λ _=>xW (XS.wm e.x W.z)) (Fc:=λ _=>[]) (A0:=[]) hs pH pO bH.nil (λ h=>N7 h);refine key.mono λ e w' ⟨q,e1,h1,hw⟩=>⟨q,e1,h1,?_⟩;rw[List.append_nil] at hw;exact hw.noA.perm pH pO
structure FX where
 i:Nat
 c:Nat
 z:XS
 ex:List EX
 N:List aQ
structure xp(m B C E:Nat)(W:Wd)(y:FX):Prop where
 ok:Fa m (B+128*(8001*y.i+y.c)) (C+(8001*y.i+y.c)) E (W.go y.z y.ex)
 L:y.z.L=W.z.L++y.N
 b:pD y.ex=pD W.ex
 dn:∀k,k<y.i->Te y.ex k=true
structure FxJ(m B C E:Nat)(W:Wd)(y:FX):Prop extends xp m B C E W y where
 lt:y.i<y.ex.length
 c:y.c<=8000
 fin:Te y.ex y.i=true∨Fin (H8 m) (rE y.ex y.i) y.z.mm (8000-y.c)
variable{W:Wd}{y:FX}
theorem xp.len(h:xp m B C E W y):y.ex.length=W.ex.length:=by have:=congrArg List.length h.b;simpa[pD] using this
theorem xp.begin(h:xp m B C E W y)(hc:y.c=0)(hi:y.i<y.ex.length):FxJ m B C E W y:=by
 refine⟨h,hi,by omega,.inr ?_⟩;obtain⟨l1,e,l2,hl,hi1⟩:=Js hi;have hR:rE y.ex y.i=e.R:=by unfold rE;rw[hl,<- hi1];exact Au _ _ _ _ _
 have w1:WR (H8 m) m y.z.mm W.ts (y.ex.map EX.R):=h.ok.wr;rw[hl,List.map_append,List.map_cons] at w1;rw[hR,hc];exact(w1.perm List.perm_middle).fin
theorem FxJ.step{q:XS×List EX×List aQ}(h:FxJ m B C E W y)(hd:Te y.ex y.i=false)(hq:Fa m (B+128*(8001*y.i+y.c)+128) (C+(8001*y.i+y.c)+1) E ((W.go y.z y.ex).go q.1 q.2.1)/\q.1.L=(W.go y.z y.ex).z.L++q.2.2/\StX (W.go y.z y.ex) y.i q.1 q.2.1):FxJ m B C E W ⟨y.i,y.c+1,q.1,q.2.1,y.N++q.2.2⟩:=by
 obtain⟨ok,hL,l1,e,e',l2,hl,hi1,hl',hb,hst⟩:=hq;have hl:y.ex=l1++e::l2:=hl;have e1:Te y.ex y.i=e.dn:=by unfold Te;rw[hl,<- hi1];exact Au _ _ _ _ _
 have e2:rE y.ex y.i=e.R:=by unfold rE;rw[hl,<- hi1];exact Au _ _ _ _ _
 have e3:Te q.2.1 y.i=e'.dn:=by unfold Te;rw[hl',<- hi1];exact Au _ _ _ _ _
 have e4:rE q.2.1 y.i=e'.R:=by unfold rE;rw[hl',<- hi1];exact Au _ _ _ _ _
 have hfin:=h.fin.resolve_left (by rw[hd];decide);rw[e2] at hfin;rw[e1] at hd;have he:EOk m (C+(8001*y.i+y.c)) y.z e:=h.ok.ex e (by show e∈y.ex;rw[hl];simp)
 have hacc:e.R.acc=some (XS.wm e.x y.z).nx:=by
  rcases he.i.Pk with⟨h1,_⟩|⟨_,h1⟩;·rw[hd] at h1;cases h1
  ·exact h1
 have hpos:=hfin.pos hacc;rcases hst with⟨h1,_⟩|⟨_,j,hj,hj1,hrc⟩
 ·rw[hd] at h1;cases h1
 refine⟨⟨ok.mono (by show _<=B+128*(8001*y.i+(y.c+1));omega) (by show _<=C+(8001*y.i+(y.c+1));omega) (Nat.le_refl _),by rw[hL];show y.z.L++q.2.2=_;rw[h.L,List.append_assoc],?_,λ k hk=>?_⟩,?_,by show y.c+1<=8000;omega,?_⟩;·show pD q.2.1=_;rw[<- h.b,hl',hl];simp[pD,hb]
 ·have hk:k<y.i:=hk;have:=h.dn k hk;show Te q.2.1 k=true
  unfold Te at this ⊢;rw[hl',aBo EX.dn l1 l2 e' e true (by omega),<- hl];exact this
 ·show y.i<q.2.1.length;rw[hl',<- hi1];simp
 ·show Te q.2.1 y.i=true∨Fin (H8 m) (rE q.2.1 y.i) q.1.mm (8000-(y.c+1));rw[e3,e4];cases hdn:e'.dn with
  | true=>exact .inl rfl
  | false=>obtain⟨m',em,hf⟩:=hfin.rc hrc;rw[hj1 hdn] at em;exact .inr (by rw[show 8000-(y.c+1)=m' by omega];exact hf)
theorem FxJ.next(h:FxJ m B C E W y)(hd:Te y.ex y.i=true):xp m B C E W ⟨y.i+1,0,y.z,y.ex,y.N⟩ :=
 ⟨h.ok.mono (by have:=h.c;show _<=B+128*(8001*(y.i+1)+0);omega) (by have:=h.c;show _<=C+(8001*(y.i+1)+0);omega) (Nat.le_refl _),h.L,h.b,λ k hk=>by
  by_cases e:k=y.i;·rw[e];exact hd
  ·exact h.dn k (by have:k<y.i+1:=hk;omega)⟩
theorem WR.Wu{s:Mm}{ts:List dW}:∀{rs:List Tr},WR H m s ts rs->(∀t∈rs,∃r,t=.done r)->WR H m s ts []
 | [],h,_=>h
 | t::rs,h,hd=>by obtain⟨r,e⟩:=hd t (List.mem_cons_self ..);subst e;exact WR.Wu h.drop λ t ht=>hd t (List.mem_cons_of_mem _ ht)
theorem xp.end(h:xp m B C E W y)(hi:y.ex.length<=y.i)(hiE:y.i<=E)(hc:y.c=0):Fa m (B+1024128*E) (C+8001*E) 0 ⟨y.z,W.ts,W.pt,W.kt,[],none,0⟩:=by
 have ok:=h.ok.mono (B':=B+1024128*E) (C':=C+8001*E) (by rw[hc];omega) (by rw[hc];omega) (Nat.le_refl _);refine⟨ok.z,ok.sz,(λ e he=>nomatch he),ok.t0,ok.tr,ok.tl,Nat.le_refl _,WR.Wu ok.wr λ t ht=>?_⟩;obtain⟨e,he,rfl⟩:=List.mem_map.1 ht
 have hk:=ok.ex e he;obtain⟨k,hk1,hk2⟩:=List.getElem_of_mem he;have hd:Te y.ex k=true:=h.dn k (by have:k<y.ex.length:=hk1;omega);have hd2:e.dn=true:=by unfold Te at hd;rw[iX,List.getElem?_map,List.getElem?_eq_getElem hk1] at hd;rw[<- hk2];exact hd
 rcases hk.i.Pk with⟨_,h2⟩|⟨h1,_⟩;·exact⟨e.rs,h2⟩
 ·rw[hd2] at h1;cases h1
set_option maxRecDepth 100000 in
set_option maxHeartbeats 2000000 in
theorem l8(hE:E<=1000)(hC:C<=100000000)(hB:B<=10000000000)(hm:m<18446744073709551616)(hW:Fa m B C E W)(hA:∀f∈aN W.z.L,f∈A)(hs:SF w D (wH m bw bm W) A [] (wO W) w) :
  Calls prog 20 #[.pointer (some ⟨bw,0,none⟩)] w λ e w'=>∃r:XS×List aQ,e=.returned (.tuple #[])/\(Fa m (B+1024128*E) (C+8001*E) 0 ⟨r.1,W.ts,W.pt,W.kt,[],none,0⟩/\r.1.L=W.z.L++r.2)/\SF w D (wH m bw bm ⟨r.1,W.ts,W.pt,W.kt,[],none,0⟩) [] (aN r.2) (wO ⟨r.1,W.ts,W.pt,W.kt,[],none,0⟩) w':=by
 have hel:=hW.el;have hbl:=B5 W.ex;refine enter func20 ntmps20 rfl rfl hs ?_;simp only[cC]
 refine aT ?_;refine mP ?_;refine dV ?_;refine Kd5 ?_;refine mN [3,9,10,11,12,13,14,15,16,17,18] (λ y:FX=>[(9,.int .i64 ((y.i:Nat):Int))]) (λ y=>xp m B C E W y/\y.i<=E/\y.c=0) (λ y=>wH m bw bm (W.go y.z y.ex)) (λ y=>aN y.N) (λ y=>wO (W.go y.z y.ex)) (λ y=>W.ex.length-y.i) (⟨0,0,W.z,W.ex,[]⟩) (⟨⟨hW,by simp,rfl,λ k hk=>absurd hk (Nat.not_lt_zero k)⟩,Nat.zero_le _,rfl⟩) (λ y f hx=>?_);refine K0a ?_;obtain⟨hy,hyE,hyc⟩:=hx;have hlen:=hy.len;refine Kd7 ?_;refine bD (λ c10=>?_) (λ c10=>?_)
 ·try (exfalso;omega)
  refine rT ?_;refine J0 ?_;refine aC (Xg (cs:=yY (pD y.ex)) (k:=y.i) rf rf gS fW (.own (.tail .head)) (by omega) (by rw[Ax,B5,hy.len];omega)) rfl ?_;refine aC (Xk (cs:=yY (pD y.ex)) (v:=.pointer (some ⟨(pD y.ex).getD y.i 0,0,none⟩)) rf fW (.own (.tail .head)) (jk (by rw[B5,hy.len];omega))) rfl ?_;refine J1 ?_;refine cO ?_;refine mN [13,14,15,16,17] (λ z:FX=>[]) (λ z=>FxJ m B C E W z/\z.i=y.i) (λ z=>wH m bw bm (W.go z.z z.ex)) (λ z=>aN z.N) (λ z=>wO (W.go z.z z.ex)) (λ z=>8001-z.c) (y) (⟨hy.begin hyc (by omega),rfl⟩) (λ z f hx=>?_) (hw0:=λ w hw=>hw.v6);refine K0a ?_;obtain⟨hz,hzi⟩:=hx;have hzc:=hz.c;have hyi:y.i<W.ex.length:=by omega
  have hzl:=hz.len;refine jS ?_;refine aD (cT 0 0 (vs:=[.pointer (some ⟨(pD y.ex).getD y.i 0,0,none⟩)]) (hs:=wH m bw bm (W.go z.z z.ex)) (os:=wO (W.go z.z z.ex)) (A0:=[]) (F1:=λ _:Unit=>aN z.N) (hc:=λ w hs=>by rw[show y.i=z.i from hzi.symm,show pD y.ex=pD z.ex from hy.b.trans hz.b.symm];exact mh (W:=W.go z.z z.ex) (i:=z.i) hz.lt hs) (hA:=bH.nil) (hF1:=λ _ _ f hf=>.inr (List.mem_append_right _ hf))) (λ x14 h14=>?_);refine oG ?_;refine bD (λ c15=>?_) (λ c15=>?_)
  ·try (exfalso;omega)
   refine aW ?_;refine cO ?_;refine yG ?_;refine aD (cT 0 0 (vs:=[.pointer (some ⟨(pD y.ex).getD y.i 0,0,none⟩)]) (hs:=wH m bw bm (W.go z.z z.ex)) (os:=wO (W.go z.z z.ex)) (A0:=aN z.z.L) (F1:=λ x:XS×List EX×List aQ=>aN (z.N++x.2.2)) (hc:=λ w hs=>by rw[show y.i=z.i from hzi.symm,show pD y.ex=pD z.ex from hy.b.trans hz.b.symm];exact Qd (W:=W.go z.z z.ex) (i:=z.i) hz.lt (by omega) (by omega) hm hz.ok (λ f hf=>hf) hs) (hA:=bH.of λ f hf=>by rw[hz.L,cX] at hf;exact(List.mem_append.1 hf).elim (λ h=>.inr (.inl (hA f h))) (λ h=>.inr (.inr (.inl h)))) (hF1:=λ x hx f hf=>by rw[cX] at hf;exact .inr ((List.mem_append.1 hf).elim (λ h=>List.mem_append_right _ h) (λ h=>List.mem_append_left _ h)))) (λ x17 h17=>?_);refine aG ?_;refine eV ?_;refine iS (⟨z.i,z.c+1,x17.1,x17.2.1,z.N++x17.2.2⟩) ?_ (hw1:=λ w hw=>hw.v6);·exact⟨hz.step (by simpa using c15) h17,hzi⟩
  ·try (exfalso;omega)
   have hzn:=hz.next (by simpa using c15);refine Xz ?_;refine Kc7 ?_;refine iS (⟨y.i+1,0,z.z,z.ex,z.N⟩) ?_ (hw1:=λ w hw=>hw.v6)
   ·exact⟨by rw[hzi] at hzn;exact hzn,by show y.i+1<=E;omega,rfl⟩
 ·try (exfalso;omega)
  refine K1t ?_;refine yG ?_;refine Pd ?_;refine Cp results20 (λ w hw=>?_);have hw:=(hw.kQ 74 1).perm (List.Perm.refl _) (List.Perm.swap _ _ _);exact⟨(y.z,y.N),rfl,⟨hy.end (by rw[hy.len];omega) hyE hyc,hy.L⟩,hw.bB (hH:=by exact .cons_cons _ (.cons_cons _ (List.nil_sublist _))) (hF:=by exact bA.all) (hO:=by exact .cons_cons _ (.cons_cons _ (.cons _ (.cons_cons _ (.cons_cons _ (List.nil_sublist _))))))⟩
end
end
end Go.Proofs.YtbajmaoegmbfgaaGreat
namespace Go.Ct
open Go Go.RowKit
section
section
variable{w0 w w':World}{M:List Nat}{H:List (Nat×Obj)}{A F:Fr}{O:List Ow}
variable{P:Program}{S:List (Nat×Value)}{G:World->Prop}{d:Nat}{ty:TypeId}{pos:String}{af:Array Edge}{gd:Option (Nat×Bool)}{x y:Operand}{t t2 e:TypeId}{p a:Option Addr}{i m k c c2 sz:Nat}
variable{α:Type}{g:α->List Value}{z:α}
end
end
section
section
variable{α:Type}
end
end
end Go.Ct
namespace Go.Proofs.YtbajmaoegmbfgaaGreat
open Go Go.RowKit Go.Ct
section
theorem o9{t t':Tr}{s s':Mm}{j:Nat}(h:Rc j t s t' s')(hj:j=0)(ht:dK t=true):t'=t/\s'=s:=by
 induction h with
 | refl t s=>exact⟨rfl,rfl⟩
 | eF _ hs ih=>obtain⟨e1,e2⟩:=ih hj ht;subst e1;cases hs<;>cases ht
 | loud _ _ _=>cases hj
structure PX where
 e:EX
 m:Nat
 tb:Nat
 c:Cd
 n:Nat
structure LS where
 a:AS
 z:XS
 l:List PX
 B:Fr
section
variable{ba bm:Nat}
end
section
variable{ba bm Bz C:Nat}{D:List Nat}{A:Fr}{w:World}{a:AS}{z:XS}{l1 l2:List PX}{p:PX}{B:Fr}
end
end
end Go.Proofs.YtbajmaoegmbfgaaGreat
namespace Go.Ct
open Go Go.RowKit
section
section
variable{P:Program}{w:World}
def kOk(P:Program)(t:TypeId):Nat->Bool
 | 0=>match P.underlying t with|some (.int _)=>true|_=>false
 | 1=>match P.underlying t with|some .bool=>true|_=>false
 | _=>match P.underlying t with|some .string=>true|_=>false
inductive ve:Nat->Value->Value->Bool->Prop where
 | int (k:IntKind) (a b:Int):ve 0 (.int k a) (.int k b) (a==b)
 | bool (a b:Bool):ve 1 (.bool a) (.bool b) (a==b)
 | str (a b:ByteArray):ve 2 (.string a) (.string b) (decide (a=b))
theorem ve.run{t:TypeId}{k:Nat}{u v:Value}{r:Bool}(h:ve k u v r)(ht:kOk P t k=true)(d:Nat):(Op.equalIn (d+1) t u v).run P w=.ok r w:=by
 cases h with
 | int k a b=>
  cases hu:P.underlying t with
  | none=>simp[kOk,hu] at ht
  | some z=>cases z<;>simp[kOk,hu] at ht;exact run_equalIn_int w d t k _ a b hu
 | bool a b=>
  cases hu:P.underlying t with
  | none=>simp[kOk,hu] at ht
  | some z=>cases z<;>simp[kOk,hu] at ht;exact run_equalIn_bool w d t a b hu
 | str a b=>
  cases hu:P.underlying t with
  | none=>simp[kOk,hu] at ht
  | some z=>cases z<;>simp[kOk,hu] at ht;rw[<- Gi];exact run_equalIn_string w d t a b hu
def fOk(P:Program)(f:Field)(o k:Nat):Bool:=f.name != "_" && Nat.beq f.offset o&&one P f.type&&kOk P f.type k
variable{xs ys:Array Value}{d:Nat}
theorem Ws{f:Field}{fs:List Field}{o k:Nat}{u v:Value}{r:Bool}(hf:fOk P f o k=true)(hx:xs[o]?=some u)(hy:ys[o]?=some v)(h:ve k u v r) :
  (Op.eqFields (d+1) xs ys (f::fs)).run P w=if r=true then(Op.eqFields (d+1) xs ys fs).run P w else .ok false w:=by
 simp only[fOk,Bool.and_eq_true,bne_iff_ne,ne_eq] at hf;obtain⟨⟨⟨h1,h2⟩,h3⟩,h4⟩:=hf;replace h2:=eS h2;subst h2;have p1:(part f.type xs f.offset).run P w=.ok u w:=mV h3 hx w;have p2:(part f.type ys f.offset).run P w=.ok v w:=mV h3 hy w;simp only[Op.eqFields,h1,ne_eq,not_false_eq_true,if_true,Sem.run_bind,p1,p2,h.run h4 d,Result.andThen_ok,Sem.run_ite,Sem.run_pure]
 cases r<;>simp
theorem zm:(Op.eqFields d xs ys []).run P w=.ok true w:=by simp[Op.eqFields]
def cw(P:Program)(t:TypeId):List Nat->Nat->List Field->Bool
 | [],_,fs=>fs.isEmpty
 | k::ks,o,f::fs=>fOk P f o k&&cw P t ks (o+1) fs
 | _::_,_,[]=>false
inductive Iv:List Nat->List Value->List Value->Bool->Prop where
 | nil:Iv [] [] [] true
 | cons {k:Nat} {ks:List Nat} {u v:Value} {us vs:List Value} {r r2:Bool} (h:ve k u v r) (hs:Iv ks us vs r2):Iv (k::ks) (u::us) (v::vs) (r&&r2)
theorem Wh{t:TypeId}{d:Nat}:∀{ks:List Nat} {us vs:List Value} {r:Bool} {fs:List Field} {o:Nat} {xs ys:List Value},Iv ks us vs r->cw P t ks o fs=true->xs.drop o=us->ys.drop o=vs ->
  (Op.eqFields (d+1) ⟨xs⟩ ⟨ys⟩ fs).run P w=.ok r w
 | [],_,_,_,fs,_,_,_,h,hs,_,_=>by
  cases h
  cases fs with
  | nil=>exact zm
  | cons f fs=>simp[cw] at hs
 | k::ks,_,_,_,fs,o,xs,ys,h,hs,hx,hy=>by
  cases h with
  | @cons _ _ u v us vs r r2 h h2 =>
   cases fs with
   | nil=>simp[cw] at hs
   | cons f fs =>
    simp only[cw,Bool.and_eq_true] at hs
    have ex:xs[o]?=some u:=by rw[<- List.head?_drop,hx];rfl
    have ey:ys[o]?=some v:=by rw[<- List.head?_drop,hy];rfl
    have hx2:xs.drop (o+1)=us:=by rw[<- List.drop_drop,hx];rfl
    have hy2:ys.drop (o+1)=vs:=by rw[<- List.drop_drop,hy];rfl
    rw[Ws hs.1 (by simpa using ex) (by simpa using ey) h,Wh h2 hs.2 hx2 hy2]
    cases r<;>simp
def N3(P:Program)(t:TypeId)(ks:List Nat):Bool :=
 (match P.underlying t with
 | some (.struct fs)=>cw P t ks 0 fs.toList
 | _=>false)&&!P.stoodInHeld t&&!P.eqGuardType P.depth t
theorem Qn{t:TypeId}{ks:List Nat}{us vs:List Value}{r:Bool}(h:N3 P t ks=true)(hv:Iv ks us vs r)(d:Nat) :
  (Op.equalIn (d+2) t (.agg ⟨us⟩) (.agg ⟨vs⟩)).run P w=.ok r w/\P.eqGuardType P.depth t=false:=by
 unfold N3 at h;cases hu:P.underlying t with
 | none=>simp[hu] at h
 | some dd=>
  rw[hu] at h;cases dd<;>simp only[Bool.false_and,Bool.false_eq_true] at h;rename_i fs;have hf:P.fieldsOf t=fs:=by simp[Program.fieldsOf,hu]
  simp only[Bool.and_eq_true,Bool.not_eq_true'] at h;refine⟨?_,h.2⟩;rw[run_equalIn_struct w (d+1) t _ _ (by rw[hf];exact hu) h.1.2,hf];exact Wh (o:=0) hv h.1.1 rfl rfl
def Ej(P:Program)(t:TypeId):List Nat->List Nat->Nat->List Field->Bool
 | [],k2,o,[f]=>f.name != "_" && Nat.beq f.offset o&&kC P f.type 2&&N3 P f.type k2
 | k::ks,k2,o,f::fs=>fOk P f o k&&Ej P t ks k2 (o+1) fs
 | _,_,_,_=>false
theorem Bh{t:TypeId}(h:kC P t 2=true){cs:List Value}{off:Nat}{u v:Value}(hv:cs.drop off=[u,v])(w:World):(part t ⟨cs⟩ off).run P w=.ok (.agg ⟨[u,v]⟩) w:=by
 obtain⟨dd,hu,hm,hi⟩:=jA h;have hagg:(isAgg t).run P w=.ok true w:=by unfold isAgg;rw[Sem.run_bind,run_underlying hu w];cases dd<;>simp_all
 cases hq':P.info? t with
 | none=>rw[hq'] at hi;simp at hi
 | some i=>
  have hs:i.size=2:=by rw[hq'] at hi;simpa using hi
  simp[part,hagg,Go.sizeOf,typeInfo,hq',hs,hv]
theorem P8{t:TypeId}{d:Nat}{k2:List Nat}{a1 a2 b1 b2:Value}{r2:Bool}(hn:Iv k2 [a1,a2] [b1,b2] r2):∀{ks:List Nat} {us vs:List Value} {r:Bool} {fs:List Field} {o:Nat} {xs ys:List Value},Iv ks us vs r->Ej P t ks k2 o fs=true->xs.drop o=us++[a1,a2]->ys.drop o=vs++[b1,b2] ->
  (Op.eqFields (d+2) ⟨xs⟩ ⟨ys⟩ fs).run P w=.ok (r&&r2) w
 | [],_,_,_,fs,o,xs,ys,h,hs,hx,hy=>by
  cases h
  cases fs with
  | nil=>simp[Ej] at hs
  | cons f fs =>
   cases fs with
   | cons g fs=>simp[Ej] at hs
   | nil =>
    simp only[Ej,Bool.and_eq_true,bne_iff_ne,ne_eq] at hs
    obtain⟨⟨⟨h1,h2⟩,h3⟩,h4⟩:=hs
    replace h2:=eS h2;subst h2;have p1:(part f.type ⟨xs⟩ f.offset).run P w=.ok (.agg ⟨[a1,a2]⟩) w:=Bh h3 hx w;have p2:(part f.type ⟨ys⟩ f.offset).run P w=.ok (.agg ⟨[b1,b2]⟩) w:=Bh h3 hy w;simp only[Op.eqFields,h1,ne_eq,not_false_eq_true,if_true,Sem.run_bind,p1,p2,(Qn (w:=w) h4 hn d).1,Result.andThen_ok,Sem.run_ite,Sem.run_pure]
    cases r2<;>simp
 | k::ks,_,_,_,fs,o,xs,ys,h,hs,hx,hy=>by
  cases h with
  | @cons _ _ u v us vs r r3 h h2 =>
   cases fs with
   | nil=>simp[Ej] at hs
   | cons f fs =>
    simp only[Ej,Bool.and_eq_true] at hs
    have ex:xs[o]?=some u:=by rw[<- List.head?_drop,hx];rfl
    have ey:ys[o]?=some v:=by rw[<- List.head?_drop,hy];rfl
    have hx2:xs.drop (o+1)=us++[a1,a2]:=by rw[<- List.drop_drop,hx];rfl
    have hy2:ys.drop (o+1)=vs++[b1,b2]:=by rw[<- List.drop_drop,hy];rfl
    rw[Ws hs.1 (by simpa using ex) (by simpa using ey) h,P8 hn h2 hs.2 hx2 hy2]
    cases r<;>simp
def rP(P:Program)(t:TypeId)(ks k2:List Nat):Bool :=
 (match P.underlying t with
 | some (.struct fs)=>Ej P t ks k2 0 fs.toList
 | _=>false)&&!P.stoodInHeld t&&!P.eqGuardType P.depth t
theorem O7{t:TypeId}{ks k2:List Nat}{us vs:List Value}{a1 a2 b1 b2:Value}{r r2:Bool}(h:rP P t ks k2=true)(hv:Iv ks us vs r)(hn:Iv k2 [a1,a2] [b1,b2] r2)(d:Nat) :
  (Op.equalIn (d+3) t (.agg ⟨us++[a1,a2]⟩) (.agg ⟨vs++[b1,b2]⟩)).run P w=.ok (r&&r2) w/\P.eqGuardType P.depth t=false:=by
 unfold rP at h
 cases hu:P.underlying t with
 | none=>simp[hu] at h
 | some dd =>
  rw[hu] at h
  cases dd<;>simp only[Bool.false_and,Bool.false_eq_true] at h
  rename_i fs
  have hf:P.fieldsOf t=fs:=by simp[Program.fieldsOf,hu]
  simp only[Bool.and_eq_true,Bool.not_eq_true'] at h
  refine⟨?_,h.2⟩
  rw[run_equalIn_struct w (d+2) t _ _ (by rw[hf];exact hu) h.1.2,hf]
  exact P8 (o:=0) hn hv h.1.1 rfl rfl
variable{S:List (Nat×Value)}{G:World->Prop}{d:Nat}{ty t t':TypeId}{pos:String}{af:Array Edge}{gd:Option (Nat×Bool)}{x y:Operand}
instance:DecidableEq Ac:=λ a b=>if h:a.k=b.k/\a.c=b.c/\a.o=b.o/\a.n=b.n then isTrue (by cases a;cases b;simp_all) else isFalse (λ e=>h (by subst e;exact⟨rfl,rfl,rfl,rfl⟩))
instance:DecidableEq Rs:=λ a b=>if h:a.err=b.err/\a.found=b.found/\a.val=b.val/\a.key=b.key/\a.fQ=b.fQ/\a.ref=b.ref/\a.root=b.root/\a.ro=b.ro then isTrue (by cases a;cases b;simp_all) else isFalse (λ e=>h (by subst e;exact⟨rfl,rfl,rfl,rfl,rfl,rfl,rfl,rfl⟩))
theorem m8(a b:Rs){t:TypeId}(ht:rP P t [0,1,0,2,0,0] [0,1]=true)(d:Nat) :
  (Op.equalIn (d+3) t (.agg ⟨a.cells⟩) (.agg ⟨b.cells⟩)).run P w=.ok (decide (a=b)) w/\P.eqGuardType P.depth t=false:=by
 have h:=O7 (w:=w) ht (Iv.cons (ve.int .i64 a.err b.err) (.cons (.bool a.found b.found) (.cons (.int .u64 a.val b.val) (.cons (.str a.key b.key) (.cons (.int .i64 a.fQ b.fQ) (.cons (.int .i64 a.ref b.ref) .nil))))))
  (Iv.cons (ve.int .i64 a.root b.root) (.cons (.bool a.ro b.ro) .nil)) d
 have e:((a.err==b.err&&(a.found==b.found&&(a.val==b.val&&(decide (a.key=b.key)&&(a.fQ==b.fQ&&(a.ref==b.ref&&true))))))&&(a.root==b.root&&(a.ro==b.ro&&true)))=decide (a=b):=by rw[Bool.eq_iff_iff];obtain⟨a1,a2,a3,a4,a5,a6,a7,a8⟩:=a;obtain⟨b1,b2,b3,b4,b5,b6,b7,b8⟩:=b;simp[and_assoc]
 rw[e] at h;exact h
theorem vq{a b:Rs}(hx:ev S x=.agg ⟨a.cells⟩)(hy:ev S y=.agg ⟨b.cells⟩)(ht:rP P t [0,1,0,2,0,0] [0,1]=true):aM P S G ⟨some d,.binOp .eql t x y t',ty,pos,af,gd⟩ (.bool (decide (a=b))):=⟨λ w _=>by have h:=m8 (w:=w) a b ht 9997;simp[execOp,hx,hy,run_eqGuard_agg w _ t _ _ _ _ h.2,run_eql_struct,h.1]⟩
theorem xe{a b:Rs}(hx:ev S x=.agg ⟨a.cells⟩)(hy:ev S y=.agg ⟨b.cells⟩)(ht:rP P t [0,1,0,2,0,0] [0,1]=true):aM P S G ⟨some d,.binOp .neq t x y t',ty,pos,af,gd⟩ (.bool (!decide (a=b))):=⟨λ w _=>by have h:=m8 (w:=w) a b ht 9997;simp[execOp,hx,hy,run_eqGuard_agg w _ t _ _ _ _ h.2,run_neq_struct,h.1]⟩
end
end
end Go.Ct
namespace Go.Proofs.YtbajmaoegmbfgaaGreat
open Go Go.RowKit Go.Ct
section
end
section
section
variable{k:Cl}{ba bx bm tb n:Nat}{x:XS}{c:Cd}{rs:Rs}{D:List Nat}{A:Fr}{w:World}
theorem Rx{bt:Nat}{d:Bool}(hd:(c.a.k==0)=d)(h:w.heap[bt]?=some (tO ba c n)):Calls Tryz.prog 33 #[.pointer (some ⟨bt,0,none⟩)] w λ e w'=>e=.returned (.bool d)/\St w [] [] w':=by subst hd;exact Bp h
theorem Al{bt:Nat}{d:Bool}{r:Rs}(hd:(c.a.k==0)=d)(ha:(if d=true then c.r else Rs.zero)=r)(h:w.heap[bt]?=some (tO ba c n)):Calls Tryz.prog 34 #[.pointer (some ⟨bt,0,none⟩)] w λ e w'=>e=.returned (.agg ⟨r.cells⟩)/\St w [] [] w':=by
 subst hd ha;have:=U9 h;simp only[beq_iff_eq] at this ⊢
 exact this
end
end
section
section
variable{ba bm Bz C:Nat}{D:List Nat}{A:Fr}{w:World}{S:LS}
end
section
variable{ba bm Bz C tp:Nat}{D:List Nat}{w:World}{S:LS}{l:List Int}{a pa:Option Addr}{c pc pos:Nat}
end
end
section
section
variable{ba bm Bz C:Nat}{D:List Nat}{A:Fr}{w:World}{S:LS}{ps:List (Nat×Nat)}
end
end
end Go.Proofs.YtbajmaoegmbfgaaGreat
namespace Go.Ct
open Go Go.RowKit
section
abbrev bx(b:Nat)(cs:List Value):Option Addr×List Value:=(some ⟨b,0,none⟩,cs)
abbrev pt(b:Nat):Value:=.pointer (some ⟨b,0,none⟩)
abbrev fn(f:FuncId)(cap:List Value):Value:=.func (.func f) #[] ⟨cap⟩
abbrev iv(n:Int):Value:=.int .i64 n
theorem Z8{α:Type}{l l' xs:List α}{is:List Nat}(h:mR l is xs l':=by(repeat (first|exact mR.nil|(apply mR.cons;(focus ((repeat (first|exact zI.head|apply zI.tail));done));simp only[rZ])));first|done|fail):mR l is xs l':=h
theorem evD{S:List (Nat×Value)}{xs:List Operand}{vs:List Value}(h:qR S xs=vs:=by(repeat (first|exact cN _|(apply bX;focus ((conv=>{lhs;whnf});try exact rfl))));first|done|fail):qR S xs=vs:=h
section
variable{w0 w:World}{M:List Nat}{H H':List (Nat×Obj)}{A F:Fr}{O O':List Ow}
theorem SF.rI(h:SF w0 M H A F O w)(hH:H'.Sublist H:=by repeat (first|exact List.Sublist.refl _|apply List.Sublist.cons))(hO:O'.Sublist O:=by repeat (first|exact List.Sublist.refl _|apply List.Sublist.cons)):SF w0 M H' [] F O' w:=h.ret hH bA.all hO
theorem SF.rN(h:SF w0 M H A (F++[]) O w)(hH:H'.Sublist H:=by repeat (first|exact List.Sublist.refl _|apply List.Sublist.cons))(hO:O'.Sublist O:=by repeat (first|exact List.Sublist.refl _|apply List.Sublist.cons)):SF w0 M H' [] F O' w:=h.ret hH (bA.iT λ f hf=>by simpa using hf) hO
variable{P:Program}{S:List (Nat×Value)}{d:Nat}{ty t:TypeId}{pos:String}{af:Array Edge}{gd:Option (Nat×Bool)}{x:Operand}{v:Value}{vs:List Value}{B:Fr}
theorem lX(b:Nat)(cs:List Value)(q:Nat)(hB:∀x∈B,x∈A)(hq:cs[q]?=some v)(hx:ev S x=.pointer (some ⟨b,q,none⟩):=by exact rfl)(ht:one P t=true:=by first|exact Og rfl|kernel_rfl)(hm:bx b cs∈B:=by simp):aM P S (SF w0 M H A F O) ⟨some d,.load t x,ty,pos,af,gd⟩ v :=rz (a:=some ⟨b,0,none⟩) (q:=q) (hx.trans (by simp[dG,eO])) ht (.bS (Aw.pW (hB _ hm))) hq
theorem Tq(b:Nat)(cs:List Value)(q k:Nat)(hB:∀x∈B,x∈A)(hv:(cs.drop q).take k=vs)(hl:vs.length=k)(hx:ev S x=.pointer (some ⟨b,q,none⟩):=by exact rfl)(ht:kC P t k=true:=by exact eD)(hm:bx b cs∈B:=by simp):aM P S (SF w0 M H A F O) ⟨some d,.load t x,ty,pos,af,gd⟩ (.agg ⟨vs⟩) :=Se (a:=some ⟨b,0,none⟩) (q:=q) (hx.trans (by simp[dG,eO])) ht (.bS (Aw.pW (hB _ hm))) hv hl
end
end
end Go.Ct
namespace Go.Proofs.YtbajmaoegmbfgaaGreat
open Go.Proofs.Tryz (prog)
open Go Go.RowKit Go.Ct
section
abbrev rU(b:Nat)(f:FuncId)(cap arg:List Value)(B:Fr)(s:Mm)(T:Tr):Prop:=C6 b f cap arg B s λ c' s' B'=>jT b T s c' s' B'
theorem C6.mr{b:Nat}{f:FuncId}{cap arg:List Value}{B B2:Fr}{s:Mm}{T:Tr}(h:rU b f cap arg B s T)(hb:∀x∈B,x∈B2):rU b f cap arg B2 s T:=h.more hb λ _ _ _ _ hC h=>h.more hC
section
variable{S:List (Nat×Value)}{w0 w:World}{M:List Nat}{H H':List (Nat×Obj)}{A A0 F B:Fr}{O O':List Ow}{ty:TypeId}{pos:String}{af:Array Edge}{gd:Option (Nat×Bool)}{b:Nat}{a:AS}{R:Cd->Mm->Fr->Prop}{is js:List Nat}{f:FuncId}{xs:List Operand}{at_:Array TypeId}{vs cap:List Value}{dst:Option Nat}{x:Operand}{H1:Cd×Fr×AS->List (Nat×Obj)}{F1:Cd×Fr×AS->Fr}{O1:Cd×Fr×AS->List Ow}
theorem Ae(hc:∀w,SF w (Ks [(b,fR a)] (gC a)) [(b,fR a)] A0 [] (gC a) w->Calls prog f ⟨vs⟩ w (Af b R a B (Ks [(b,fR a)] (gC a)) w))
  (ha:qR S xs=vs:=by exact evD) (hp:plain prog f=true:=by kernel_rfl) (hH:mR H is [(b,fR a)] H':=by exact Z8) (hO:mR O js (gC a) O':=by exact Z8) (hA:bH A F O' A0:=by exact bH.of (λ _ h=>Or.inr (Or.inl h)))
  (hl1:is.length=1:=by exact rfl) (hl2:js.length=2:=by exact rfl)
  (hH1:∀y,jE is [(b,fR y.2.2)] H'=H1 y:=by intro x;simp only[jE,sS];exact rfl) (hF1:∀y,y.2.1++F=F1 y:=by intro x;exact rfl) (hO1:∀y,jE js (gC y.2.2) O'=O1 y:=by intro x;simp only[jE,sS,mW];exact rfl) :
  bG prog S (SF w0 M H A F O) ⟨dst,.call {callee:=.value (.func f),args:=⟨xs⟩,argTypes:=at_},ty,pos,af,gd⟩ (Cd×Fr×AS) (λ y=>.agg ⟨y.1.cells⟩) (λ y w=>(R y.1 y.2.2.mm (y.2.1++B)/\y.2.2.Ok/\a.iN y.2.2 y.2.1)/\SF w0 M (H1 y) A (F1 y) (O1 y) w) :=
 cM (hs:=[(b,fR a)]) (os:=gC a) (hs':=λ y:Cd×Fr×AS=>[(b,fR y.2.2)]) (os':=λ y=>gC y.2.2) (Fc:=λ y=>y.2.1) ha hp hc hH hO hA (λ _=>hl1) (λ _=>hl2) hH1 hF1 hO1
theorem V1(hp:plain prog f=true)(hk:C6 b f cap vs B a.mm R)(ok:a.Ok)(hm:a.mm.Small)(hA0:∀f∈aN a.L,f∈A)(hB:∀x∈B,x∈A)(hx:ev S x=.func (.func f) #[] ⟨cap⟩:=by exact rfl)
  (ha:qR S xs=vs:=by exact evD) (hH:mR H is [(b,fR a)] H':=by exact Z8) (hO:mR O js (gC a) O':=by exact Z8)
  (hl1:is.length=1:=by exact rfl) (hl2:js.length=2:=by exact rfl)
  (hH1:∀y,jE is [(b,fR y.2.2)] H'=H1 y:=by intro x;simp only[jE,sS];exact rfl) (hF1:∀y,y.2.1++F=F1 y:=by intro x;exact rfl) (hO1:∀y,jE js (gC y.2.2) O'=O1 y:=by intro x;simp only[jE,sS,mW];exact rfl) :
  bG prog S (SF w0 M H A F O) ⟨dst,.call {callee:=.value x,args:=⟨xs⟩,argTypes:=at_},ty,pos,af,gd⟩ (Cd×Fr×AS) (λ y=>.agg ⟨y.1.cells⟩) (λ y w=>(R y.1 y.2.2.mm (y.2.1++B)/\y.2.2.Ok/\a.iN y.2.2 y.2.1)/\SF w0 M (H1 y) A (F1 y) (O1 y) w) :=
 cMf (V:=λ y:Cd×Fr×AS=>.agg ⟨y.1.cells⟩) (hs:=[(b,fR a)]) (os:=gC a) (hs':=λ y:Cd×Fr×AS=>[(b,fR y.2.2)]) (os':=λ y=>gC y.2.2) (Fc:=λ y=>y.2.1) (A0:=A) hx ha hp (λ w hw=>hk a _ A w rfl ok hm hA0 hB hw) hH hO (bH.of λ _ h=>.inr (.inl h)) (λ _=>hl1) (λ _=>hl2) hH1 hF1 hO1
end
end
end Go.Proofs.YtbajmaoegmbfgaaGreat
