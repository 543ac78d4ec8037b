/- Merged. -/
import Derived.Test.YtdnklbipddigbaaGreatGTm2
import Derived.Test.YtdnklbipddigbaaGreatGWo4
import Derived.Test.YtdnklbipddigbaaGreatGQw1
import Derived.Test.YtdnklbipddigbaaGreatGKw5
import Derived.Test.YtdnklbipddigbaaGreatGTape3
import Derived.Test.YtdnklbipddigbaaGreatGKw6
import Derived.Test.YtdnklbipddigbaaGreatR93
import Derived.Test.YtdnklbipddigbaaGreatGRn1
import Derived.Test.YtdnklbipddigbaaGreatGKw1
set_option linter.unusedSimpArgs false
set_option linter.unusedVariables false
namespace Go.Ct
open Go Go.RowKit
section
section
variable{α:Type}
theorem Ats.pre:∀(es r:List α),Ats (es++r) (List.replicate es.length 0) es r
 | [],r=>.nil
 | a::es,r=>.cons .head (Ats.pre es r)
end
theorem frame_c{P:Program}{f:FuncId}{vs:Array Value}{X:Type}{V:X->Value}{φ:X->Prop}{w0 w:World}{M:List Nat}{H hs H':List (Nat×Obj)}{A A0 F:Fr}{O os O':List Ow}{hs':X->List (Nat×Obj)}{os':X->List Ow}{Fc:X->Fr}
  (h:SF w0 M H A F O w) (pH:H.Perm (hs++H')) (pO:O.Perm (os++O')) (hA:HasAll A F O' A0)
  (hc:SF w (Ks hs os) hs A0 [] os w->Calls P f vs w λ e w'=>∃x,e=.returned (V x)/\φ x/\SF w (Ks hs os) (hs' x) [] (Fc x) (os' x) w') :
  Calls P f vs w λ e w'=>∃x,e=.returned (V x)/\φ x/\SF w0 M (hs' x++H') A (Fc x++F) (os' x++O') w':=by
 have h1:=h.perm pH.symm pO.symm;refine(hc (h1.memStart (Ats.pre hs H') (Ats.pre os O') hA)).mono λ e w' ⟨x,e1,hx,hw⟩=>⟨x,e1,hx,?_⟩;have kperm:∀(a c:List (Nat×Obj)) (b d:List Ow),(Ks (a++c) (b++d)).Perm (Ks a b++Ks c d):=λ a c b d=>by unfold Ks;rw[List.map_append,List.flatMap_append];simp only[List.append_assoc];refine List.Perm.append_left _ ?_;rw[<- List.append_assoc,<- List.append_assoc];exact List.Perm.append_right _ List.perm_append_comm
 have nd0:=(kperm hs H' os O').nodup_iff.1 h1.dis;have disj:∀b∈Ks hs os,b∉Ks H' O':=λ b hb hm=>(List.nodup_append.1 nd0).2.2 b hb b hm rfl
 exact h1.callM (D:=Ks hs os) (Hm:=[]) (Hc:=hs' x) (H1:=H') (Fc:=Fc x) (Om:=[]) (Oc:=os' x) (O1:=O') hw (λ b hb=>(kperm hs H' os O').mem_iff.2 (List.mem_append_left _ hb))
  (λ p hpm=>.inr ⟨List.mem_append_right _ hpm,λ hm=>disj _ hm (mem_Ks.2 (.inl ⟨p,hpm,rfl⟩))⟩)
  (λ o ho=>.inr ⟨List.mem_append_right _ ho,λ b hb hm=>disj _ hm (mem_Ks.2 (.inr ⟨o,ho,hb⟩))⟩)
  (List.nodup_append.1 nd0).2.1
end
end Go.Ct
namespace Go.Proofs.YtdnklbipddigbaaGreat
open Go.Proofs.Tryz (prog)
section
open Go Go.RowKit Go.Ct
structure EX where
 b:Nat
 k:Cl
 x:XS
 dn:Bool
 rs:Rs
 R:Tr
structure Wd where
 z:XS
 ts:List Tri
 pt:Option Addr
 kt:Nat
 ex:List EX
 pe:Option Addr
 ke:Nat
def exH(bm:Nat)(l:List EX):List (Nat×Obj):=l.map λ e=>(e.b,xO e.k bm e.x e.dn e.rs)
def exO(l:List EX):List Ow:=l.flatMap λ e=>[⟨e.x.pg,refsC e.x.got,e.x.kg,28,1⟩,⟨e.x.pm,refsC e.x.made,e.x.km,28,1⟩,⟨e.x.pl,refsC e.x.cel,e.x.kl,33,1⟩,⟨e.x.pe,refsC e.x.gns,e.x.ke,3,1⟩]
def exB(l:List EX):List Nat:=l.map EX.b
abbrev wH(m bw bm:Nat)(W:Wd):List (Nat×Obj):=(bw,wobj bm (m:Int) W.pt W.ts.length W.kt W.pe (exB W.ex).length W.ke)::(bm,xM W.z)::exH bm W.ex
abbrev wO(W:Wd):List Ow:=⟨W.pt,trC W.ts,W.kt,35,2⟩::⟨W.pe,ptC (exB W.ex),W.ke,84,1⟩::⟨W.z.pn,nvC W.z.L,W.z.cn,45,14⟩::⟨W.z.pc,refsC W.z.cs,W.z.cc,28,1⟩::exO W.ex
def XS.wm(x z:XS):XS:={x with L:=z.L,cs:=z.cs,gen:=z.gen,acc:=z.acc,pn:=z.pn,cn:=z.cn,pc:=z.pc,cc:=z.cc}
theorem xok_wm{x z z':XS}{N:List NdV}(h:(XS.wm x z).Ok)(h':z'.Ok)(e:z'.L=z.L++N):(XS.wm x z').Ok:=by
 have hl:z.L.length<=z'.L.length:=by rw[e,List.length_append];omega
 exact⟨h'.fit,h'.nd,h'.cs,λ v hv=>by have:=h.got v hv;show v<=z'.L.length;have h2:v<=z.L.length:=this;omega,λ v hv=>by have:=h.made v hv;show v<=z'.L.length;have h2:v<=z.L.length:=this;omega,h'.two,h'.lL,h'.lc,h.lg,h.la,h.lm,h.lk,h.le,h.fr,h'.ys,h'.gen0,h.ms,h.m1⟩
theorem xok_new{z:XS}(h:z.Ok):(XS.new z.L z.cs z.gen z.acc z.pn z.cn z.pc z.cc).Ok :=⟨h.fit,h.nd,h.cs,(λ v hv=>nomatch hv),(λ v hv=>nomatch hv),h.two,h.lL,h.lc,Nat.zero_le _,Nat.le_refl _,Nat.le_refl _,Nat.le_refl _,Nat.le_refl _,Nat.zero_le _,h.ys,h.gen0,(λ i j _ hj=>absurd hj (Nat.not_lt_zero j)),(λ v hv=>nomatch hv)⟩
theorem exi_wm{T:Tr}{x z z':XS}{dn:Bool}{rs:Rs}{R:Tr}{N:List NdV}(h:ExI T (XS.wm x z) dn rs R)(h':z'.Ok)(e:z'.L=z.L++N):ExI T (XS.wm x z') dn rs R:=by refine⟨xok_wm h.ok h' e,?_,h.res⟩;have hw:=h.wk;show Wk (z'.L.map NdV.c) T x.got x.made x.cel x.gns R;rw[e,List.map_append];exact Wk.mono hw
structure EOk(m C:Nat)(z:XS)(e:EX):Prop where
 i:ExI (T0 e.k m) (XS.wm e.x z) e.dn e.rs e.R
 k:7<=e.k.kind/\e.k.kind<=12
 em:e.k.mask=(m:Int)
 ht:e.k.t.root<=9223372036854775807
 ha:e.k.a=0/\e.k.b=0/\e.k.n=0
 gl:e.x.got.length<=C
theorem EOk.wm{m C:Nat}{z z':XS}{e:EX}{N:List NdV}(h:EOk m C z e)(h':z'.Ok)(he:z'.L=z.L++N):EOk m C z' e:=⟨exi_wm h.i h' he,h.k,h.em,h.ht,h.ha,h.gl⟩
theorem exi_rest{T R:Tr}{x:XS}{dn:Bool}{rs:Rs}(h:ExI T x dn rs R):atRest R=true:=by
 rcases h.res with⟨_,e⟩|⟨_,e⟩;·rw[e];rfl
 ·cases R<;>first|rfl|(simp[Tr.acc] at e)
structure WOk(m B C E:Nat)(W:Wd):Prop where
 z:W.z.Ok
 sz:Sz W.z B
 ex:∀e∈W.ex,EOk m C W.z e
 t0:0<W.ts.length
 tr:(W.ts.getD 0 ⟨0,false⟩).ro=false
 tl:W.ts.length<=5
 el:W.ex.length<=E
 wr:WR (H8 m) m W.z.mm W.ts (W.ex.map EX.R)
theorem WOk.root{m B C E:Nat}{W:Wd}(h:WOk m B C E W)(hB:B<=1000000000000){t:Tri}(ht:t∈W.ts):t.root<=9223372036854775807:=by
 obtain⟨σ,hi⟩:=h.wr.inv;have h1:=(hi.ts t ht).2.1;have h2:=h.sz.2.1;have e:σ.cl=W.z.cs.length:=by simp only[Kw.cl,hi.mm];rfl
 omega
theorem callOk_of{m:Nat}{k:Cl}{ts:List Tri}(hk:7<=k.kind/\k.kind<=12)(hm:m<18446744073709551616)(ht:k.t∈ts)(hky:k.key∈keys8)(hro:wrK k.kind->k.t.ro=false){s:Mm}:∀σ:Kw,σ.mm=s->Inv (H8 m) σ->(∀t∈ts,TrieOk σ t)->CallOk (H8 m) σ k (hsK k.key m):=λ σ _ _ h =>
 ⟨h _ ht,hsK_lt _ _,if_pos hky,hro,.inl hk⟩
section
variable{m B C E bw bm:Nat}{D:List Nat}{A:Fr}{w:World}
set_option maxHeartbeats 1000000 in
theorem wrunW_c{W:Wd}{q:CalQ}{kind:Int}(steps:Nat)(hst:steps<=1048576)(hC:steps<=C)(hB:B<=100000000000)(hm:m<18446744073709551616)(hW:WOk m B C E W)(hE:E<=900)(hkd:7<=kind/\kind<=12)(hq:CalOk kind W.ts q)(hA:∀f∈famF W.z.L,f∈A)(hs:SF w D (wH m bw bm W) A [] (wO W) w) :
  Calls prog 46 #[.pointer (some ⟨bw,0,none⟩),.agg ⟨clC (q.cl kind m)⟩,.int .i64 (steps:Int)] w λ e w'=>∃r:Wd×List NdV,e=.returned (.tuple #[])/\(WOk m (B+64+128*steps) C (E+1) r.1/\r.1.z.L=W.z.L++r.2)/\SF w D (wH m bw bm r.1) [] (famF r.2) (wO r.1) w':=by
 have hwt:=hW.root (by omega) hq.mem;have hlen:(exB W.ex).length=W.ex.length:=by simp[exB]
 have hel:=hW.el;have htl:=hW.tl
 have:=frame_c (f:=46) (H':=exH bm W.ex) (O':=exO W.ex) (hs:=[(bw,wobj bm (m:Int) W.pt W.ts.length W.kt W.pe (exB W.ex).length W.ke),(bm,xM W.z)]) (os:=[⟨W.pt,trC W.ts,W.kt,35,2⟩,⟨W.pe,ptC (exB W.ex),W.ke,84,1⟩,⟨W.z.pn,nvC W.z.L,W.z.cn,45,14⟩,⟨W.z.pc,refsC W.z.cs,W.z.cc,28,1⟩]) (A0:=famF W.z.L) hs (List.Perm.refl _) (List.Perm.refl _) (HasAll.of λ f hf=>.inr (.inl (hA f hf)))
  (λ h=>wrun_c (k:=q.cl kind m) (m:=m) (B:=B) steps hst hB hW.sz (.inr ⟨hkd.1,hkd.2⟩) hm rfl hwt rfl rfl rfl (λ f hf=>hf) (xok_new hW.z) (by omega) (by omega) h)
 refine this.mono λ e w' ⟨⟨bx,y,kq⟩,e1,⟨hi,his,hk⟩,hw⟩=>?_;replace his:y.i<=steps:=his;replace hi:RunI (q.cl kind m) m (XS.new W.z.L W.z.cs W.z.gen W.z.acc W.z.pn W.z.cn W.z.pc W.z.cc) B y:=hi;have hext:y.x.L=W.z.L++y.N:=hi.ext;obtain⟨j,hrc⟩:=hi.rc;have hstart:WR (H8 m) m y.x.mm W.ts (y.R::W.ex.map EX.R):=.start hW.wr (callOk_of hkd hm hq.mem hq.ky hq.ro) hrc (exi_rest hi.ex);have hszy:Sz y.x (B+64+128*steps):=by obtain⟨z1,z2,z3⟩:=hi.sz;exact⟨by omega,by omega,by omega⟩
 have hexs:∀e∈W.ex,EOk m C y.x e:=λ e he=>(hW.ex e he).wm hi.ex.ok hext
 rw[List.append_nil] at hw;obtain⟨i,x,N,dn,rs,R⟩:=y;cases dn with
 | true=>
  rcases hk with⟨hd,_⟩|⟨_,he,hts⟩;·cases hd
  ·have hR:R=.done rs:=by rcases hi.ex.res with⟨_,h⟩|⟨h,_⟩;exact h;cases h
   have hL:kq.ts.length<=5/\0<kq.ts.length/\(kq.ts.getD 0 ⟨0,false⟩).ro=false/\WR (H8 m) m x.mm kq.ts (W.ex.map EX.R):=by
    rcases hts with hts|⟨h0,h5,hts⟩;·rw[hts];exact⟨hW.tl,hW.t0,hW.tr,by subst hR;exact hstart.drop⟩
    ·refine⟨h5,by rw[hts];simp,?_,?_⟩;·rw[hts,gdg,List.getElem?_append_left hW.t0,<- gdg];exact hW.tr
     ·rw[hts];subst hR;exact(hstart.add h0).drop
   refine⟨(⟨x,kq.ts,kq.pt,kq.kt,W.ex,kq.pe,kq.ke⟩,N),e1,⟨⟨hi.ex.ok,hszy,hexs,hL.2.1,hL.2.2.1,hL.1,by show W.ex.length<=E+1;omega,hL.2.2.2⟩,hext⟩,?_⟩;have hes:kq.es=exB W.ex:=he;dsimp only[wH,wO];rw[<- hes];exact hw.noA
 | false=>
  rcases hk with⟨_,he,hts⟩|⟨hd,_⟩
  ·have hes:exB (W.ex++[⟨bx,q.cl kind m,x,false,rs,R⟩])=kq.es:=by rw[he];simp[exB]
   refine⟨(⟨x,kq.ts,kq.pt,kq.kt,W.ex++[⟨bx,q.cl kind m,x,false,rs,R⟩],kq.pe,kq.ke⟩,N),e1,⟨⟨hi.ex.ok,hszy,λ e he=>?_,by rw[show kq.ts=W.ts from hts];exact hW.t0,by rw[show kq.ts=W.ts from hts];exact hW.tr,by rw[show kq.ts=W.ts from hts];exact hW.tl,by simp;omega,?_⟩,hext⟩,?_⟩
   ·rcases List.mem_append.1 he with he|he;·exact hexs e he
    ·rw[List.mem_singleton.1 he];exact⟨hi.ex,hkd,rfl,hwt,⟨rfl,rfl,rfl⟩,by have:=hi.gl;show x.got.length<=C;simp only at this his;omega⟩
   ·rw[show kq.ts=W.ts from hts,List.map_append];exact hstart.perm (List.perm_append_comm (l₁:=[R]))
   ·dsimp only[wH,wO];rw[hes];refine hw.noA.perm ?_ ?_
    ·have e2:exH bm (W.ex++[⟨bx,q.cl kind m,x,false,rs,R⟩])=exH bm W.ex++[(bx,xO (q.cl kind m) bm x false rs)]:=by simp[exH]
     rw[e2];exact(List.perm_append_comm (l₁:=(bw,_)::(bm,_)::exH bm W.ex) (l₂:=[(bx,xO (q.cl kind m) bm x false rs)]))
    ·have e2:exO (W.ex++[⟨bx,q.cl kind m,x,false,rs,R⟩])=exO W.ex++xE4 x false:=by simp[exO,xE4]
     rw[e2];exact(List.perm_append_comm (l₁:=_::_::_::_::exO W.ex) (l₂:=xE4 x false))
  ·cases hd
abbrev Wd.go(W:Wd)(z:XS)(ex:List EX):Wd:=⟨z,W.ts,W.pt,W.kt,ex,W.pe,W.ke⟩
def StX(W:Wd)(i:Nat)(z:XS)(ex:List EX):Prop:=∃l1 e e' l2,W.ex=l1++e::l2/\l1.length=i/\ex=l1++e'::l2/\e'.b=e.b/\((e.dn=true/\e'=e)∨(e.dn=false/\∃j,j<=1/\(e'.dn=false->j=1)/\Rc j e.R W.z.mm e'.R z.mm))
theorem ex_split{l:List EX}{i:Nat}(hi:i<l.length):∃l1 e l2,l=l1++e::l2/\l1.length=i:=by refine⟨l.take i,l[i],l.drop (i+1),?_,by simp;omega⟩;rw[<- List.drop_eq_getElem_cons hi,List.take_append_drop]
theorem wH_X{W:Wd}{l1 l2:List EX}{e:EX}(hl:W.ex=l1++e::l2):(wH m bw bm W).Perm (xH e.k e.b bm (XS.wm e.x W.z) e.dn e.rs++((bw,wobj bm (m:Int) W.pt W.ts.length W.kt W.pe (exB W.ex).length W.ke)::exH bm (l1++l2))):=by
 have e1:exH bm W.ex=exH bm l1++(e.b,xO e.k bm (XS.wm e.x W.z) e.dn e.rs)::exH bm l2:=by rw[hl];simp only[exH,List.map_append,List.map_cons];rfl
 have e2:exH bm (l1++l2)=exH bm l1++exH bm l2:=by simp[exH]
 dsimp only[wH];rw[e1,e2];refine(List.Perm.swap _ _ _).trans ?_;refine(((List.perm_middle (a:=(e.b,xO e.k bm (XS.wm e.x W.z) e.dn e.rs)) (l₁:=exH bm l1) (l₂:=exH bm l2)).cons _).cons _).trans ?_;refine((List.Perm.swap _ _ _).cons _).trans ?_;exact List.Perm.swap _ _ _
theorem wO_X{W:Wd}{l1 l2:List EX}{e:EX}(hl:W.ex=l1++e::l2):(wO W).Perm (xW (XS.wm e.x W.z)++(⟨W.pt,trC W.ts,W.kt,35,2⟩::⟨W.pe,ptC (exB W.ex),W.ke,84,1⟩::exO (l1++l2))):=by
 have e1:exO W.ex=exO l1++(exO [e]++exO l2):=by rw[hl];simp[exO]
 have e2:exO (l1++l2)=exO l1++exO l2:=by simp[exO]
 dsimp only[wO];rw[e1,e2];have hx:xW (XS.wm e.x W.z)=exO [e]++[⟨W.z.pn,nvC W.z.L,W.z.cn,45,14⟩,⟨W.z.pc,refsC W.z.cs,W.z.cc,28,1⟩]:=rfl;rw[hx];generalize exO [e]=oe;generalize exO l1=o1;generalize exO l2=o2;have p1:(o1++(oe++o2)).Perm (oe++(o1++o2)):=by rw[<- List.append_assoc,<- List.append_assoc];exact List.perm_append_comm.append_right _
 refine((((p1.cons _).cons _).cons _).cons _).trans ?_;have p2:∀(a b c d:Ow) (l r:List Ow),(a::b::c::d::(l++r)).Perm (l++[c,d]++(a::b::r)):=λ a b c d l r=>by
  have h1:([a,b]++[c,d]++l++r).Perm (l++[c,d]++[a,b]++r):=by refine List.Perm.append_right r ?_;refine List.perm_append_comm.trans ?_;rw[List.append_assoc];exact List.Perm.append_left l List.perm_append_comm
  simpa using h1
 exact p2 _ _ _ _ _ _
theorem wstepX_c{W:Wd}{i:Nat}(hi:i<W.ex.length)(hC:C<=1000000000)(hB:B<=100000000000)(hm:m<18446744073709551616)(hW:WOk m B C E W)(hA:∀f∈famF W.z.L,f∈A)(hs:SF w D (wH m bw bm W) A [] (wO W) w) :
  Calls prog 47 #[.pointer (some ⟨(exB W.ex).getD i 0,0,none⟩)] w λ e w'=>∃q:XS×List EX×List NdV,e=.returned (.tuple #[])/\(WOk m (B+128) (C+1) E (W.go q.1 q.2.1)/\q.1.L=W.z.L++q.2.2/\StX W i q.1 q.2.1)/\SF w D (wH m bw bm (W.go q.1 q.2.1)) [] (famF q.2.2) (wO (W.go q.1 q.2.1)) w':=by
 obtain⟨l1,e,l2,hl,hi1⟩:=ex_split hi;have hb:(exB W.ex).getD i 0=e.b:=by rw[hl,<- hi1];simp[exB]
 rw[hb];have he:=hW.ex e (by rw[hl];simp);have hsz:=hW.sz;obtain⟨s1,s2,s3⟩:=hsz;have hgl:=he.gl;have pH:=wH_X (m:=m) (bw:=bw) (bm:=bm) hl;have pO:=wO_X hl
 have key:=frame_c (f:=47) (A0:=famF W.z.L) hs pH pO (HasAll.of λ f hf=>.inr (.inl (hA f hf)))
  (λ h=>step_c (x:=XS.wm e.x W.z) (N:=e.x.got.length+1) (n:=1073741824) (m:=m) (t0_tame e.k m (by omega)) (by omega) rfl ⟨by show W.z.L.length<=_;omega,by show W.z.cs.length<=_;omega,by show W.z.gen<=_;omega⟩ he.i (.inr he.k) (Nat.le_refl _) hm he.em he.ht (by rw[he.ha.1];exact nn0 _) (by rw[he.ha.2.1];exact nn0 _) (by rw[he.ha.2.2];exact nn0 _) (λ f hf=>hf) h)
 refine key.mono λ en w' ⟨⟨x',N,dn',rs'⟩,e1,hq,hw⟩=>?_;rw[List.append_nil] at hw;rcases hq with⟨hd,hq⟩|⟨hd,hq⟩
 ·have h1:x'=XS.wm e.x W.z:=congrArg (λ q:XS×List NdV×Bool×Rs=>q.1) hq
  have h2:N=[]:=congrArg (λ q:XS×List NdV×Bool×Rs=>q.2.1) hq
  have h3:dn'=true:=congrArg (λ q:XS×List NdV×Bool×Rs=>q.2.2.1) hq
  have h4:rs'=e.rs:=congrArg (λ q:XS×List NdV×Bool×Rs=>q.2.2.2) hq
  subst h1 h2 h3 h4;refine⟨(W.z,W.ex,[]),e1,⟨⟨hW.z,⟨by show W.z.L.length<=_;omega,by show W.z.cs.length<=_;omega,by show W.z.gen<=_;omega⟩,λ x hx=>?_,hW.t0,hW.tr,hW.tl,hW.el,hW.wr⟩,by simp,l1,e,e,l2,hl,hi1,hl,rfl,.inl ⟨hd,rfl⟩⟩,?_⟩;·have:=hW.ex x hx;exact⟨this.i,this.k,this.em,this.ht,this.ha,by have:=this.gl;omega⟩
  ·have hw2:=hw.noA.perm (H':=wH m bw bm W) (O':=wO W) (by rw[hd] at pH;exact pH) pO;exact hw2
 ·obtain⟨R',j,h1,h2,h3,h4,h5,h6⟩:=RepQ.exI hq;have hx':XS.wm x' x'=x':=rfl;have hext:x'.L=W.z.L++N:=h5;have hsz':Sz x' (B+128):=size_step he.i hd (t0_tame e.k m (n:=e.x.got.length+1) (by omega)) (Nat.le_refl _) h4 h1 hW.sz;have hwr:WR (H8 m) m x'.mm W.ts ((l1++⟨e.b,e.k,x',dn',rs',R'⟩::l2).map EX.R):=by have w1:=hW.wr;rw[hl,List.map_append,List.map_cons] at w1;have w2:=(w1.perm List.perm_middle).step h4 (exi_rest h3);rw[List.map_append,List.map_cons];exact w2.perm List.perm_middle.symm
  have hgl':=RepQ.gl hq;have hexB:exB (l1++⟨e.b,e.k,x',dn',rs',R'⟩::l2)=exB W.ex:=by rw[hl];simp[exB]
  refine⟨(x',l1++⟨e.b,e.k,x',dn',rs',R'⟩::l2,N),e1,⟨⟨h3.ok,hsz',λ y hy=>?_,hW.t0,hW.tr,hW.tl,by have:=hW.el;rw[hl] at this;simpa using this,hwr⟩,hext,l1,e,⟨e.b,e.k,x',dn',rs',R'⟩,l2,hl,hi1,rfl,rfl,.inr ⟨hd,j,h1,h2,h4⟩⟩,?_⟩
  ·rcases List.mem_append.1 hy with hy|hy;·have:=(hW.ex y (by rw[hl];exact List.mem_append_left _ hy)).wm h3.ok hext;exact⟨this.i,this.k,this.em,this.ht,this.ha,by have:=this.gl;omega⟩
   ·rcases List.mem_cons.1 hy with rfl|hy;·exact⟨h3,he.k,he.em,he.ht,he.ha,by show x'.got.length<=C+1;have:x'.got.length<=e.x.got.length+1:=hgl';omega⟩
    ·have:=(hW.ex y (by rw[hl];exact List.mem_append_right _ (List.mem_cons_of_mem _ hy))).wm h3.ok hext;exact⟨this.i,this.k,this.em,this.ht,this.ha,by have:=this.gl;omega⟩
  ·rw[<- hexB] at hw;exact hw.noA.perm (wH_X (W:=W.go x' (l1++⟨e.b,e.k,x',dn',rs',R'⟩::l2)) rfl) (wO_X (W:=W.go x' (l1++⟨e.b,e.k,x',dn',rs',R'⟩::l2)) rfl)
theorem wstepW_c{W:Wd}{i:Nat}(hi:i<W.ex.length)(hC:C<=1000000000)(hB:B<=100000000000)(hm:m<18446744073709551616)(hW:WOk m B C E W)(hA:∀f∈famF W.z.L,f∈A)(hs:SF w D (wH m bw bm W) A [] (wO W) w) :
  Calls prog 47 #[.pointer (some ⟨(exB W.ex).getD i 0,0,none⟩)] w λ e w'=>∃r:Wd×List NdV,e=.returned (.tuple #[])/\(WOk m (B+128) (C+1) E r.1/\r.1.ts=W.ts/\r.1.z.L=W.z.L++r.2)/\SF w D (wH m bw bm r.1) [] (famF r.2) (wO r.1) w' :=
 (wstepX_c hi hC hB hm hW hA hs).mono λ _ _ ⟨q,e,h,hw⟩=>⟨(W.go q.1 q.2.1,q.2.2),e,⟨h.1,rfl,h.2.1⟩,hw⟩
end
end
section
open Go Go.RowKit Go.Ct
section
variable{L:List NdV}{cs:List Int}{gen:Int}{pn pc:Option Addr}{cn cc:Nat}{w:World}
theorem stB_o2(hp:Proper L cs gen)(hr:Rngs L)(hl:L.length<=274877906944):StB L cs:=by
 have hd:∀x:Int,Ins x L.length->x<=9223372036854775807:=λ x h=>by have:=h.2;omega
 refine⟨λ c=>?_,λ r=>?_,λ r=>?_,λ r=>?_,λ r=>?_,λ r=>?_,λ r=>?_⟩
 ·unfold cellV;split;·exact hd _ (hp.cells _ (by omega))
  ·decide
 ·unfold nodeV;split;·exact hd _ (hp.nodes (r-1).toNat (by omega)).2.2.2.1
  ·decide
 ·unfold nodeV;split;·exact hd _ (hp.nodes (r-1).toNat (by omega)).2.2.2.2.2
  ·decide
 ·unfold nodeV;split;·exact(hr _ (getD_mem (by omega))).main
  ·decide
 ·unfold nodeV;split;·exact(hr _ (getD_mem (by omega))).prev
  ·decide
 ·unfold nodeV;split;·exact(hr _ (getD_mem (by omega))).status
  ·decide
 ·unfold nodeV;split;·intro b hb;obtain⟨i,hi,rfl⟩:=List.mem_iff_getElem.1 hb;have:=(hp.nodes (r-1).toNat (by omega)).2.2.1 i hi;rw[gdg,List.getElem?_eq_getElem hi] at this;exact hd _ this
  ·intro b hb;cases hb
theorem rRootP_c(hp:Proper L cs gen)(h:StAt w L cs pn pc)(hr:Rngs L)(hl:L.length<=274877906944)(hc:cs.length<=274877906944)(c:Int)(ro:Bool){r:Int}(ho:rootO (L.map NdV.c) cs c=some r)(hi:c<=9223372036854775807):Calls prog 31 #[stG L cs gen pn cn pc cc,.agg ⟨[.int .i64 c,.bool ro]⟩] w λ e w'=>e=.returned (.tuple #[.int .i64 r,.bool true])/\St w [] [] w':=by
 refine enter Tryz.func31 Tryz.ntmps31 rfl rfl h.start ?_;simp only[mkS];simp only[stG];refine J0 ?_;refine j_box (λ x2=>?_);refine j_box (λ x3=>?_);refine Kd8 ?_;refine J25 ?_;refine j_ownF (c0 (V:=.bool) (hc:=λ w1 hw=>refProper_c (h.of0 hw) hr hl hc)) (λ x7 h7=>?_);refine J33 ?_;refine kif (λ c8=>?_) (λ c8=>?_);·rw[h7.2 hp] at c8;cases c8
 ·refine Kc5 ?_;refine j_load ?_;refine j_own (cV (hc:=λ w1 hw=>rRoot_c (h.of0 hw) (stB_o2 hp hr hl) hl hc c ro hi)) (λ x11=>?_);refine J54 ?_;refine J8 ?_;refine k_rt Tryz.results31 (λ w hw=>?_);exact⟨by rw[ho];rfl,hw.done⟩
end
end
section
open Go Go.RowKit Go.Ct
section
variable{H:ByteArray->Nat}{σ:Kw}{w:List Nat}{m g i:Int}
theorem plB_app{N:List Nv}{f:Int->List Int->List Int->Option (List Pl×List Pr)}{way idx:List Int}:∀(xs ys:List Int) (j:Nat) (s:List Int),plB N f way idx (xs++ys) j s=(plB N f way idx xs j s).bind λ p=>(plB N f way idx ys (j+xs.length) (s++p.1.map Pl.i)).map λ q=>(p.1++q.1,p.2++q.2)
 | [],ys,j,s=>by
  simp only[List.nil_append,plB,Option.bind_some,List.length_nil,Nat.add_zero,List.map_nil,List.append_nil]
  cases plB N f way idx ys j s<;>rfl
 | b::r,ys,j,s=>by
  have e:j+(b::r).length=j+1+r.length:=by simp only[List.length_cons];omega
  rw[e]
  simp only[List.cons_append,plB]
  split
  ·rw[plB_app r ys (j+1) s]
   cases plB N f way idx r (j+1) s with
   | none=>rfl
   | some p=>simp only[Option.bind_some,Option.map_some];cases plB N f way idx ys (j+1+r.length) (s++p.1.map Pl.i)<;>rfl
  ·split
   ·cases f b (way++[idx.getD j 0]) s with
    | none=>rfl
    | some p =>
     simp only[Option.bind_some]
     rw[plB_app r ys (j+1) (s++p.1.map Pl.i)]
     cases plB N f way idx r (j+1) (s++p.1.map Pl.i) with
     | none=>rfl
     | some q =>
      simp only[Option.bind_some,Option.map_some,List.map_append,<- List.append_assoc]
      cases plB N f way idx ys (j+1+r.length) (s++p.1.map Pl.i++q.1.map Pl.i)<;>simp
   ·rfl
def PlG(σ:Kw)(w:List Nat)(p:Pl):Prop:=Bel σ w p.i/\bodyO σ.mm.nodes σ.mm.cs p.i=some p.m
theorem plc_ok(i0:Inv H σ):∀(n:Nat) (i:Int) (w:List Nat) (g a:Int) (lv:Nat) (way s:List Int),InG σ i w g->12<=w.length+n->(∀j∈s,¬∃v,σ.way j=w++v)->∃q,plc σ.mm.nodes σ.mm.cs n a lv i way s=some q/\(∀p∈q.1,PlG σ w p)/\q.1≠[]
 | 0,i,w,g,_,_,_,_,hi,hn,_=>by have:=(hi.gens i0).2.2;omega
 | n+1,i,w,g,a,lv,way,s,hi,hn,hl=>by
  obtain⟨p,hp,hm⟩:=body_ok i0 hi;have hbi:Bel σ w i:=⟨[],by rw[hi.1.2,List.append_nil],hi.1.1,by rw[hp];rfl⟩;have hns:¬i∈s:=λ h=>hl i h ⟨[],by rw[hi.1.2,List.append_nil]⟩
  by_cases h3:(σ.nd p).kind=3
  ·have hc:=hm.cnode i0 h3;have key:∀k,k<=64->∃q,plB σ.mm.nodes (λ b w s=>plc σ.mm.nodes σ.mm.cs n i (lv+1) b w s) way (idxF (σ.nd p).bm.toNat 64) (lOf (mOf (σ.nd p).bm.toNat (σ.nd p).xs) k) 0 (s++[i])=some q/\∀r∈q.1,∃k',k'<k/\PlG σ (w++[k']) r:=by
    intro k;induction k with
    | zero=>intro _;exact⟨([],[]),rfl,λ j hj=>nomatch hj⟩
    | succ k ih=>
     intro hk;obtain⟨q,h1,h2⟩:=ih (by omega);have up:∀r∈q.1,∃k',k'<k+1/\PlG σ (w++[k']) r:=λ r hr=>by obtain⟨k',h5,h6⟩:=h2 r hr;exact⟨k',by omega,h6⟩
     simp only[lOf];rw[plB_app,h1,Option.bind_some];cases hmo:mOf (σ.nd p).bm.toNat (σ.nd p).xs k with
     | none=>exact⟨q,by simp[plB],up⟩
     | some b=>
      rcases hc.br k (by omega) b hmo with hb|hb;·refine⟨(q.1,q.2++[((ndAt σ.mm.nodes b).key,(ndAt σ.mm.nodes b).val)]),?_,up⟩;simp only[Option.toList,plB];rw[if_pos hb.1];simp
      ·have hbg:InG σ b (w++[k]) (σ.nd b).gen:=⟨⟨hb.1,hb.2.1⟩,rfl⟩
       obtain⟨q2,h5,h6,_⟩:=plc_ok i0 n b (w++[k]) _ i (lv+1) (way++[(idxF (σ.nd p).bm.toNat 64).getD (0+(lOf (mOf (σ.nd p).bm.toNat (σ.nd p).xs) k).length) 0]) (s++[i]++q.1.map Pl.i) hbg (by rw[List.length_append,List.length_singleton];omega) (λ j hj=>by
        rintro ⟨v,hv⟩;rcases List.mem_append.1 hj with hj|hj
        ·rcases List.mem_append.1 hj with hj|hj;·exact hl j hj ⟨k::v,by rw[hv,List.append_assoc];rfl⟩
         ·rw[List.mem_singleton.1 hj,hi.1.2] at hv;have:=congrArg List.length hv;simp at this
        ·obtain⟨r,hr,rfl⟩:=List.mem_map.1 hj;obtain⟨k',h5,⟨v',h6,_⟩,_⟩:=h2 r hr;rw[h6] at hv;have:=app_inj hv;omega)
       refine⟨(q.1++q2.1,q.2++q2.2),?_,λ r hr=>?_⟩;·simp only[Option.toList,plB];rw[if_neg (by rw[hb.1];decide),if_pos hb.1,h5];simp
       ·rcases List.mem_append.1 hr with hr|hr;·exact up r hr
        ·exact⟨k,by omega,h6 r hr⟩
   obtain⟨q,h1,h2⟩:=key 64 (Nat.le_refl _);rw[hc.lof] at h1;refine⟨(⟨i,p,a,lv,way⟩::q.1,q.2),by rw[plc_c hns hp (by rw[h3];decide),h1];rfl,λ r hr=>?_,by simp⟩;rcases List.mem_cons.1 hr with rfl|hr;·exact⟨hbi,hp⟩
   ·obtain⟨k',_,h6,h7⟩:=h2 r hr;exact⟨h6.up,h7⟩
  ·have hk:(ndAt σ.mm.nodes p).kind=5∨(ndAt σ.mm.nodes p).kind=6:=by have:MainK (σ.nd p):=hm.1;unfold MainK at this;have h3':¬(ndAt σ.mm.nodes p).kind=3:=h3;have t2:(ndAt σ.mm.nodes p).kind=3∨(ndAt σ.mm.nodes p).kind=5∨(ndAt σ.mm.nodes p).kind=6:=this;omega
   exact⟨_,plc_own hns hp hk,λ r hr=>by rw[List.mem_singleton.1 hr];exact⟨hbi,hp⟩,by simp⟩
end
end
section
open Go Go.RowKit Go.Ct
section
variable{L:List NdV}{cs:List Int}{gen:Int}{pn pc:Option Addr}{cn cc:Nat}{w:World}
theorem nv_orQ(L:List NdV)(r:Int):nodeV L r=NdV.zero∨∃k,k<L.length/\nodeV L r=L.getD k NdV.zero:=by
 unfold nodeV;split;·exact .inr ⟨(r-1).toNat,by omega,rfl⟩
 ·exact .inl rfl
theorem proper_bmQ(hp:Proper L cs gen)(hr:Rngs L)(r:Int):∃b:Nat,b<18446744073709551616/\(nodeV L r).nd.bm=(b:Int)/\((nodeV L r).nd.kind=3->(nodeV L r).xs.length=cnt b 64):=by
 rcases nv_orQ L r with e|⟨k,hk,e⟩;·rw[e];exact⟨0,by decide,rfl,λ h=>absurd h (by decide)⟩
 ·rw[e];obtain⟨b,hb,hlt⟩:=(hr _ (getD_mem hk)).bm;refine⟨b,hlt,hb,λ h3=>?_⟩;have:=(ndValid_c3 h3 (hp.nodes k hk).1).1;rw[hb,rOnes_cnt hlt] at this;omega
theorem proper_xsQ(hp:Proper L cs gen){r:Int}(h:(nodeV L r).nd.kind≠3):(nodeV L r).xs=[]:=by
 rcases nv_orQ L r with e|⟨k,hk,e⟩;·rw[e];rfl
 ·rw[e] at h ⊢;exact(hp.nodes k hk).1.1.2.2.2.2.1.trans (if_neg (by simpa using h))
theorem proper_64Q(hp:Proper L cs gen)(hr:Rngs L)(r:Int):(nodeV L r).xs.length<=64:=by
 by_cases h:(nodeV L r).nd.kind=3;·obtain⟨b,_,_,h3⟩:=proper_bmQ hp hr r;rw[h3 h];exact cnt_le _ _
 ·rw[proper_xsQ hp h];decide
theorem proper_fewQ(hp:Proper L cs gen)(hr:Rngs L){B:Nat}(hB:∀v∈L,v.ys.length<=B)(hb:(L.length+1)*(B+64)<=549755813888):Few L B:=by
 refine⟨λ r=>⟨?_,proper_64Q hp hr r⟩,hb⟩;rcases nv_orQ L r with e|⟨k,hk,e⟩;·rw[e];exact Nat.zero_le _
 ·rw[e];exact hB _ (getD_mem hk)
theorem plresQ{B:Nat}{wp:Option Addr}{wc:Nat}{o:Option (List Pl×List Pr)}{x:PlX}(h:PlR L B wp wc [] o x):(o=none->x.ok=false)/\∀q,o=some q->x.ok=true/\x.l.map PlV.p=q.1/\x.ps=q.2/\(x.own=false->(x.pp,prC x.ps)∈famF L)/\x.l.length<=L.length+1:=by
 refine⟨λ e=>?_,λ q e=>?_⟩;·subst e;exact h.2
 ·subst e;obtain⟨h1,h2,h3,h4,h5,h6,h7⟩:=h.2;refine⟨h1,h2,h3,h5,?_⟩;have:=h6.len;rw[List.nil_append,List.length_map,<- h2,List.length_map] at this;exact this
theorem rPlacesP_c(hp:Proper L cs gen)(h:StAt w L cs pn pc)(hr:Rngs L)(hl:L.length<=274877906944)(hc:cs.length<=274877906944){B:Nat}(hB:∀v∈L,v.ys.length<=B)(hBl:(L.length+1)*(B+64)<=549755813888)(c:Int)(ro:Bool)(hi:c<=9223372036854775807){r:Int}(hrt:rootO (L.map NdV.c) cs c=some r){q:List Pl×List Pr}(hn:plc (L.map NdV.c) cs 12 0 0 r [] []=some q):Calls prog 49 #[stG L cs gen pn cn pc cc,.agg ⟨[.int .i64 c,.bool ro]⟩] w λ e w'=>∃x:PlX,e=.returned (.tuple #[.slice x.lp x.l.length x.lc,.slice x.pp x.ps.length x.pc,.bool true])/\(x.l.map PlV.p=q.1/\x.l.length<=L.length+1)/\SF w [] [] [] x.fr [] w':=by
 have hb:=stB_o2 hp hr hl;obtain⟨k,rfl,hk⟩:=root_in hrt;refine enter Tryz.func49 Tryz.ntmps49 rfl rfl h.start ?_;simp only[mkS];simp only[stG];refine J0 ?_;refine j_box (λ x2=>?_);refine j_box (λ x3=>?_);refine j_assignL (λ _=>?_);refine J8 ?_;refine J25 ?_;refine j_load ?_;refine j_own (cV (hc:=λ w1 hw=>rRootP_c (gen:=gen) (cn:=cn) (cc:=cc) hp (h.of0 hw) hr hl hc c ro hrt hi)) (λ x14=>?_);refine Kb9 ?_;refine J33 ?_;refine kif (λ c18=>?_) (λ c18=>?_);·exact nv c18
 ·refine J16 ?_;refine k_dp [(0,[]),(1,[]),(2,[]),(3,[]),(4,[]),(5,[]),(6,[]),(7,[0]),(8,[]),(9,[]),(10,[]),(11,[]),(12,[]),(13,[]),(14,[]),(15,[])] ?_;refine Ke0 ?_;refine r_build ?_;refine J15 ?_;refine r_len ?_;refine r_inc ?_;refine r_makeSlice (h:=λ x27=>?_);refine r_ownF (i:=8) (hq:=(cM (hs:=[]) (os:=[snW L x27 (List.replicate (L.length+1) false)]) (hA:=HasAll.cons (.inr (.inl (.head _))) (HasAll.cons (.inr (.inl (.tail _ (.head _)))) (HasAll.cons (.inl rfl) (HasAll.of λ f hf=>.inr (.inl (.tail _ (.tail _ hf))))))) (hc:=λ w1 hs=>places_c h.fit hb hl hc (proper_bmQ hp hr) B x27 (proper_fewQ hp hr hB hBl) 12 0 rfl k 0 0 [] none 0 [] _ _ w1 hk rfl (Nat.le_refl _) (Vs.zero _) hs))) (h:=λ x28 h28=>?_);refine Kd0 ?_;refine r_extract ?_;refine r_assignL (h:=λ _=>?_);refine J55 ?_;refine J32 ?_;refine J33 ?_;refine kif (λ c33=>?_) (λ c33=>?_);·exfalso;rw[((plresQ h28).2 _ hn).1] at c33;simp at c33
  ·refine J58 ?_;refine j_assignL (λ _=>?_);refine J8 ?_;refine k_rt Tryz.results49 (λ w hw=>?_);obtain⟨h1,h2,h3,h4,h5⟩:=(plresQ h28).2 _ hn;rw[List.append_nil] at hw;exact⟨x28,rfl,⟨h2,h5⟩,hw.z0⟩
end
open Classical in
theorem nodup_leQ{α:Type}:∀(l m:List α),l.Nodup->(∀a∈l,a∈m)->l.length<=m.length
 | [],_,_,_=>Nat.zero_le _
 | a::l,m,hn,hs=>by
  have hn:=List.nodup_cons.1 hn;have ha:=hs a (List.mem_cons_self ..);have:=nodup_leQ l (m.erase a) hn.2 λ b hb=>by have hb2:=hs b (List.mem_cons_of_mem _ hb);exact(List.mem_erase_of_ne (λ e=>hn.1 (by rw[<- e];exact hb))).2 hb2
  rw[List.length_erase_of_mem ha] at this;have:=List.length_pos_of_mem ha;simp only[List.length_cons];omega
theorem world_ysQ{m B C E:Nat}{W:Wd}(h:WOk m B C E W):∀v∈W.z.L,v.ys.length<=8:=by
 obtain⟨σ,hi⟩:=h.wr.inv;have i0:=hi.inv;have e1:σ.mm.nodes=W.z.L.map NdV.c:=by rw[hi.mm];rfl
 have hl:σ.len=W.z.L.length:=by show σ.mm.nodes.length=_;rw[e1,List.length_map]
 intro v hv;obtain⟨k,hk,rfl⟩:=List.mem_iff_getElem.1 hv;have hn:=i0.nd ((k+1:Nat):Int) (by omega) (by omega);have e:σ.nd ((k+1:Nat):Int)=(W.z.L[k]).c:=by simp only[Kw.nd];rw[e1,nodeV_c',nodeV_at hk,gdg,List.getElem?_eq_getElem hk];rfl
 have hy:(σ.nd ((k+1:Nat):Int)).ys=(W.z.L[k]).ys:=by rw[e];rfl
 rw[<- hy];have hval:=hn.valid;by_cases h6:(σ.nd ((k+1:Nat):Int)).kind=6
 ·have hk6:=hn.k6 h6;obtain⟨b,hb,hblt⟩:=hn.bd.hash;have hasc:SA (σ.nd ((k+1:Nat):Int)).ys:=by
   have:=hval.2.2.2.2;have h6':(σ.nd ((k+1:Nat):Int)).nd.kind=6:=h6;rcases this with h|h|h|h|h|h|h;·omega
   ·omega
   ·omega
   ·omega
   ·exact asc_sa.1 h.2.2.1
   ·omega
   ·omega
  have hnd:((σ.nd ((k+1:Nat):Int)).ys.map Prod.fst).Nodup:=by unfold List.Nodup;rw[List.pairwise_map];exact hasc.imp λ{a b} hab e=>by rw[e,sless_irrefl] at hab;cases hab
  have:=nodup_leQ _ keys8 hnd λ q hq=>by obtain⟨p,hp,rfl⟩:=List.mem_map.1 hq;exact(h8_lt (hk6.2.2.1 p hp) (by omega)).1
  rw[List.length_map] at this;exact this
 ·have:(σ.nd ((k+1:Nat):Int)).ys=[]:=hval.1.2.2.2.2.2.2.2.2.1.trans (if_neg (by have h7:¬(σ.nd ((k+1:Nat):Int)).nd.kind=6:=h6;simpa using h7));rw[this];decide
theorem world_place{m B C E:Nat}{W:Wd}(h:WOk m B C E W){t:Tri}(ht:t∈W.ts):∃r q,rootO (W.z.L.map NdV.c) W.z.cs t.root=some r/\plc (W.z.L.map NdV.c) W.z.cs 12 0 0 r [] []=some q/\q.1≠[]/\∀p∈q.1,(ndAt (W.z.L.map NdV.c) p.i).kind=2/\bodyO (W.z.L.map NdV.c) W.z.cs p.i=some p.m:=by
 obtain⟨σ,hi⟩:=h.wr.inv;have i0:=hi.inv;have e1:σ.mm.nodes=W.z.L.map NdV.c:=by rw[hi.mm];rfl
 have e2:σ.mm.cs=W.z.cs:=by rw[hi.mm];rfl
 obtain⟨r,hr,hir⟩:=root_ok i0 (hi.ts t ht);obtain⟨q,h1,h2,h3⟩:=plc_ok i0 12 r [] (σ.nd r).gen 0 0 [] [] ⟨hir,rfl⟩ (by decide) (λ j hj=>nomatch hj);rw[e1,e2] at hr h1;refine⟨r,q,hr,h1,h3,λ p hp=>?_⟩;obtain⟨⟨v,_,k2,_⟩,k4⟩:=h2 p hp;rw[e1,e2] at k4;have e3:σ.nd p.i=ndAt (W.z.L.map NdV.c) p.i:=by rw[<- e1]
 rw[e3] at k2;exact⟨k2,k4⟩
end
end Go.Proofs.YtdnklbipddigbaaGreat
namespace Go.Ct
open Go Go.RowKit
section
section
variable{w0 w w':World}{M:List Nat}{H:List (Nat×Obj)}{A F:Fr}{O:List Ow}
variable{P:Program}{S:List (Nat×Value)}{G:World->Prop}{d:Nat}{ty:TypeId}{pos:String}{af:Array Edge}{gd:Option (Nat×Bool)}{x y:Operand}{t t2 e:TypeId}{p a:Option Addr}{i m k c c2 sz:Nat}
variable{α:Type}{g:α->List Value}{z:α}
theorem flat_length(hg:∀x,(g x).length=sz):∀l:List α,(l.flatMap g).length=sz*l.length
 | []=>by simp
 | x::r=>by have:=flat_length hg r;simp only[List.flatMap_cons,List.length_append,List.length_cons,this,hg,Nat.mul_add,Nat.mul_one];omega
theorem flat_at(hg:∀x,(g x).length=sz):∀{l:List α} {k j:Nat},k<l.length->j<sz->(l.flatMap g)[sz*k+j]?=(g (l.getD k z))[j]?
 | [],_,_,h,_=>by simp at h
 | n::r,0,j,_,hj=>by
  simp only[List.flatMap_cons,Nat.mul_zero,Nat.zero_add,List.getD_cons_zero]
  rw[List.getElem?_append_left (by rw[hg];exact hj)]
 | n::r,k+1,j,h,hj=>by
  have:=flat_at hg (l:=r) (k:=k) (j:=j) (by simpa using h) hj
  simp only[List.flatMap_cons,List.getD_cons_succ]
  rw[List.getElem?_append_right (by rw[hg,Nat.mul_add];omega),<- this,hg]
  congr 1
  rw[Nat.mul_add]
  omega
theorem o_indexG{lst:List α}{kk:IntKind}(hg:∀x,(g x).length=sz)(h0:0<sz)(hx:ev S x=.slice a m c)(hy:ev S y=.int kk ((k:Nat):Int))(ht:P.underlying t=some (.slice e))(hs:aggOf P e sz=true)(hf:FIn A F O a (lst.flatMap g))(h1:k<m)(h2:k<lst.length) :
  Quiet P S (SF w0 M H A F O) ⟨some d,.indexAddr t x y,ty,pos,af,gd⟩ (.pointer (some ⟨ablk a,aoff a+sz*k,none⟩)):=⟨λ w hw=>by obtain⟨_,_,_,hsz⟩:=agg_parts hs;have ha:=(hw.cl hf).ptr (by rw[flat_length hg];exact Nat.mul_pos h0 (by omega));have:=run_index (P:=P) (a:=a) (m:=m) (c:=c) (k:=kk) ht hsz ha (i:=(k:Int)) (by omega) (by omega) w;simp only[Int.toNat_natCast,Nat.mul_comm k sz] at this;simp[execOp,hx,hy,this]⟩
theorem o_loadG{lst:List α}{q:Nat}(z:α)(hg:∀x,(g x).length=sz)(hx:ev S x=.pointer (some ⟨ablk a,aoff a+sz*q,none⟩))(ht:aggOf P t sz=true)(hf:FIn A F O a (lst.flatMap g))(hq:q<lst.length) :
  Quiet P S (SF w0 M H A F O) ⟨some d,.load t x,ty,pos,af,gd⟩ (.agg ⟨g (lst.getD q z)⟩):=⟨λ w hw=>by
 have hcl:=hw.cl hf;obtain⟨dd,hu,hm,hi⟩:=agg_parts ht;have hagg:(isAgg t).run P w=.ok true w:=by unfold isAgg;rw[Sem.run_bind,run_underlying hu w];cases dd<;>simp_all
 have hl:(loadCells ⟨ablk a,aoff a+sz*q,none⟩ sz).run P w=.ok ⟨g (lst.getD q z)⟩ w:=by
  have:=run_loadCells_list (P:=P) w ⟨ablk a,aoff a+sz*q,none⟩ (g (lst.getD q z)) (λ j u hz=>by
   have hj:j<sz:=by rw[<- hg (lst.getD q z)];exact(List.getElem?_eq_some_iff.1 hz).1
   rw[Addr.add_lit];have h3:=(hcl.at_ (sz*q+j) u (by rw[flat_at hg hq hj];exact hz)).2;rwa [<- Nat.add_assoc] at h3)
  rwa [hg] at this
 cases hq':P.info? t with
 | none=>rw[hq'] at hi;simp at hi
 | some i=>
  have hs:i.size=sz:=by rw[hq'] at hi;simpa using hi
  simp[execOp,hx,Instr.loadAt,Instr.sureAddr,loadVar,hagg,Go.sizeOf,typeInfo,hq',hs,hl]⟩
end
end
end Go.Ct
namespace Go.Proofs.YtdnklbipddigbaaGreat
open Go Go.RowKit Go.Ct
section
section
variable{w:World}{L:List NdV}{cs:List Int}{gen:Int}{pn pc:Option Addr}{cn cc:Nat}
end
end
section
section
variable{H:ByteArray->Nat}{Q:Rs->Kw->Prop}{σ:Kw}
end
section
variable{H:ByteArray->Nat}{σ:Kw}{t:Tri}{i:Int}
end
section
variable{s:Mm}{t:Tri}{i m n c pc:Int}{K:Int->Tr}
end
end
section
theorem ndAt_last(N:List Nv)(v:Nv):ndAt (N++[v]) ((N.length+1:Nat):Int)=v:=by unfold ndAt;rw[if_pos ⟨by omega,by simp⟩,gdg,show(((N.length+1:Nat):Int)-1).toNat=N.length by omega];simp
section
variable{H:ByteArray->Nat}{σ:Kw}{t:Tri}{i m:Int}
end
end
section
section
variable{s M:Mm}{t:Tri}{i m n n0 n1:Int}
end
end
section
section
variable{H:ByteArray->Nat}{M s:Mm}{ts:List Tri}{σ:Kw}{t:Tri}{i m n:Int}{u:Nv}
theorem QS.main(q:QS H M ts σ)(hi:(ndAt M.nodes i).kind=2):1<=(ndAt M.nodes i).main/\(ndAt M.nodes i).main<=M.cs.length/\MainK (ndAt M.nodes (cellV M.cs (ndAt M.nodes i).main))/\cellV M.cs (ndAt M.nodes (cellV M.cs (ndAt M.nodes i).main)).prev=0:=by have e:=q.mm;subst e;have h1:=q.inv.mainCell hi;exact⟨h1.1,h1.2.1,cur_mk q.inv hi,q.st i hi⟩
theorem QS.body(q:QS H M ts σ)(hb:bodyO M.nodes M.cs i=some m):(ndAt M.nodes i).kind=2/\cellV M.cs (ndAt M.nodes i).main=m:=by
 have hi:=(body_kind hb).1;refine⟨hi,?_⟩;have hp:bodyP M.nodes M.cs i=0:=(q.main hi).2.2.2;unfold bodyO at hb;split at hb;·exact Option.some.inj hb
 ·cases hb
end
end
end Go.Proofs.YtdnklbipddigbaaGreat
