/- Worlds by what may happen: memories, tries, what is left of the operations; all keep the labels. -/
import Derived.Test.YtbajmaoegmbfgaaGreatKw8
import Derived.Test.YtbajmaoegmbfgaaGreatGEx11
import Derived.Test.YtbajmaoegmbfgaaGreatGTape
import Derived.Test.YtbajmaoegmbfgaaGreatGWo3

set_option linter.unusedSimpArgs false
set_option linter.unusedVariables false
namespace Go.Ct
section
open Go Go.RowKit
def mm0:Mm:=⟨[fK.c,fK.c,dK (({Nd.zero with kind:=3}:Nd).c [] []) 0,dK (({Nd.zero with kind:=2,gen:=1}:Nd).c [] []) 1],[0,3,4],1⟩
end
end Go.Ct
namespace Go.Proofs.YtbajmaoegmbfgaaGreat
section
open Go Go.RowKit Go.Ct
open Classical in
noncomputable def H8 (m:Nat) (k:ByteArray):Nat:=if k∈lV then mD k m else 18446744073709551616
theorem aB3{m h:Nat}{k:ByteArray}(e:H8 m k=h)(hl:h<18446744073709551616):k∈lV/\mD k m=h:=by
 unfold H8 at e
 split at e
 ·exact⟨by assumption,e⟩
 ·omega
inductive WR(H:ByteArray->Nat)(m:Nat):Mm->List eQ->List Tr->Prop where
 | new:WR H m mm0 [⟨3,false⟩] []
 | start {s s':Mm} {ts:List eQ} {rs:List Tr} {k:Cl} {n j:Nat} {t':Tr} (h:WR H m s ts rs) (hk:∀σ:Kw,σ.mm=s->Inv H σ->(∀t∈ts,cL σ t)->S9 H σ k (mD k.key m)) (hr:Rc j (lA k (mD k.key m) n) s t' s') (ha:eS t'=true):WR H m s' ts (t'::rs)
 | step {s s':Mm} {ts:List eQ} {rs:List Tr} {j:Nat} {t t':Tr} (h:WR H m s ts (t::rs)) (hr:Rc j t s t' s') (ha:eS t'=true):WR H m s' ts (t'::rs)
 | perm {s:Mm} {ts:List eQ} {rs rs':List Tr} (h:WR H m s ts rs) (hp:rs.Perm rs'):WR H m s ts rs'
 | drop {s:Mm} {ts:List eQ} {rs:List Tr} {r:Rs} (h:WR H m s ts (.done r::rs)):WR H m s ts rs
 | add {s:Mm} {ts:List eQ} {rs:List Tr} {r:Rs} (h:WR H m s ts (.done r::rs)) (h0:0<r.root):WR H m s (ts++[⟨r.root,r.ro⟩]) (.done r::rs)
structure WI(H:ByteArray->Nat)(s:Mm)(ts:List eQ)(rs:List Tr)(σ:Kw):Prop where
 mm:σ.mm=s
 inv:Inv H σ
 ts:∀t∈ts,cL σ t
 rs:∀t∈rs,eS t=true/\WT H Q0 t σ
def kw0:Kw:=⟨⟨[fK.c,fK.c],[],0⟩,λ _=>[],λ _=>0,λ _=>.no⟩
theorem yb{r:Int}(h1:1<=r)(h2:r<=2):kw0.nd r=fK.c:=by
 have:r=1∨r=2:=by omega
 rcases this with rfl|rfl<;>rfl
theorem V9(H:ByteArray->Nat):Inv H kw0:=by
 refine⟨by decide,rfl,rfl,Int.le_refl _,Qf (Int.le_refl _),λ r h1 h2=>?_,λ c h1 h2=>?_⟩
 ·have h2':r<=2:=h2
  have e:=yb h1 h2'
  have hok:=M9 (gen:=0) (n:=2) (Int.le_refl _)
  refine⟨by rw[e];exact hok.1,by rw[e];exact Int.le_refl _,by rw[e];exact⟨bL _,bL _,bL _,(λ r hr=>nomatch hr),bL _,bL _,bL _,jQ,jQ⟩,λ k=>?_,λ k=>?_,λ k=>?_,λ k=>?_,λ k=>?_,λ k=>?_,λ k=>?_⟩<;>rw[e] at k
  ·exact eK (a:=1) (b:=2) k
  ·exact eK (a:=1) (b:=3) k
  ·exact eK (a:=1) (b:=4) k
  ·exact eK (a:=1) (b:=5) k
  ·exact eK (a:=1) (b:=6) k
  ·exact eK (a:=1) (b:=7) k
  ·exact eK (a:=1) (b:=8) k
 ·exact absurd h2 (by show ¬c<=((0:Nat):Int);omega)
def Wf:Tr:=.alloc Nf 0 λ c=>.gen λ g=>.alloc (iC g) c λ j=>.cell j λ r=>.done (Pg r false)
theorem Xh{H:ByteArray->Nat}{σ:Kw}(i0:Inv H σ):WT H Q0 Wf σ:=by
 have hg:=i0.gen
 have hnew:lU H σ Nf ([]:List Nat) (σ.mm.gen+1):=nT (b:=0) (xs:=[]) i0 Mv (λ j hj v hv=>by simp[rH] at hv) (by simp) (λ h=>absurd h (by decide))
 refine fX i0 hnew (rA i0 (λ e=>eK (a:=3) (b:=2) e)) λ ρ e0 cl l3 i4 _ em e1 e2 e3 h1 h2=>?_
 have hem:oT ρ e0 [] (σ.mm.gen+1):=pK (cl:=0) (.inl rfl) e1 e2 e3
 have hgr:ρ.mm.gen=σ.mm.gen:=by rw[em];rfl
 refine Mt i4 λ χ l4 i5 e4=>?_
 exact sQ (g:=ρ.mm.gen+1) i5 (by omega) (by omega) (by simp) (hem.up l4) (by omega) λ ψ j l5 i6 hj=>Ev false i6 hj.1 λ ω c l6 i7 h0 hc=>λ _=>hc
theorem Yt:Rc 0 Wf kw0.mm (.done (Pg 3 false)) mm0 :=
 .eD (.eD (.eD (.eD (Rc.refl _ _) (Sp.alloc _ _ _ _)) (Sp.gen _ _)) (Sp.alloc _ _ _ _)) (Sp.cell _ _ _)
theorem V1{H:ByteArray->Nat}:∀(r:Rs) (σ τ:Kw),Inv H σ->Inv H τ->Le σ τ->Q0 r σ->Q0 r τ:=λ _ _ _ _ _ l h=>h.up l
theorem WR.inv{H:ByteArray->Nat}{m:Nat}{s:Mm}{ts:List eQ}{rs:List Tr}(h:WR H m s ts rs):∃σ,WI H s ts rs σ:=by
 induction h with
 | new =>
  obtain⟨υ,l,i,e,hq⟩:=WT.rc Yt rfl (V9 H) (Xh (V9 H))
  refine⟨υ,e,i,λ t ht=>?_,λ t ht=>nomatch ht⟩
  rw[List.mem_singleton.1 ht]
  exact hq (by decide)
 | start _ hk hr ha ih =>
  obtain⟨σ,hi⟩:=ih
  obtain⟨υ,l,i,e,hw⟩:=WT.rc hr hi.mm hi.inv (tv hi.inv (hk σ hi.mm hi.inv hi.ts) _)
  refine⟨υ,e,i,λ t ht=>(hi.ts t ht).up l,λ t ht=>?_⟩
  rcases List.mem_cons.1 ht with rfl|ht
  ·exact⟨ha,hw⟩
  ·exact⟨(hi.rs t ht).1,WT.mono V1 (hi.rs t ht).1 hi.inv i l (hi.rs t ht).2⟩
 | step _ hr ha ih =>
  obtain⟨σ,hi⟩:=ih
  obtain⟨υ,l,i,e,hw⟩:=WT.rc hr hi.mm hi.inv (hi.rs _ (List.mem_cons_self ..)).2
  refine⟨υ,e,i,λ t ht=>(hi.ts t ht).up l,λ t ht=>?_⟩
  rcases List.mem_cons.1 ht with rfl|ht
  ·exact⟨ha,hw⟩
  ·have:=hi.rs t (List.mem_cons_of_mem _ ht)
   exact⟨this.1,WT.mono V1 this.1 hi.inv i l this.2⟩
 | perm _ hp ih =>
  obtain⟨σ,hi⟩:=ih
  exact⟨σ,hi.mm,hi.inv,hi.ts,λ t ht=>hi.rs t (hp.mem_iff.2 ht)⟩
 | drop _ ih =>
  obtain⟨σ,hi⟩:=ih
  exact⟨σ,hi.mm,hi.inv,hi.ts,λ t ht=>hi.rs t (List.mem_cons_of_mem _ ht)⟩
 | add _ h0 ih =>
  obtain⟨σ,hi⟩:=ih
  refine⟨σ,hi.mm,hi.inv,λ t ht=>?_,hi.rs⟩
  rcases List.mem_append.1 ht with ht|ht
  ·exact hi.ts t ht
  ·rw[List.mem_singleton.1 ht]
   exact(hi.rs _ (List.mem_cons_self ..)).2 h0
end

/- Worlds: the state of a world; an operation is run in it, an execution makes a step. -/
end Go.Proofs.YtbajmaoegmbfgaaGreat
namespace Go.Ct
section
open Go Go.RowKit
section
variable{α:Type}
theorem mC.pre:∀(es r:List α),mC (es++r) (List.replicate es.length 0) es r
 | [],r=>.nil
 | a::es,r=>.cons .head (mC.pre es r)
end
theorem Nl{P:Program}{f:FuncId}{vs:Array Value}{X:Type}{V:X->Value}{φ:X->Prop}{w0 w:World}{M:List Nat}{H hs H':List (Nat×Obj)}{A A0 F:Fr}{O os O':List Ow}{hs':X->List (Nat×Obj)}{os':X->List Ow}{Fc:X->Fr}
  (h:SF w0 M H A F O w) (pH:H.Perm (hs++H')) (pO:O.Perm (os++O')) (hA:bB A F O' A0)
  (hc:SF w (Ks hs os) hs A0 [] os w->Calls P f vs w λ e w'=>∃x,e=.returned (V x)/\φ x/\SF w (Ks hs os) (hs' x) [] (Fc x) (os' x) w') :
  Calls P f vs w λ e w'=>∃x,e=.returned (V x)/\φ x/\SF w0 M (hs' x++H') A (Fc x++F) (os' x++O') w':=by
 have h1:=h.perm pH.symm pO.symm
 refine(hc (h1.qA (mC.pre hs H') (mC.pre os O') hA)).mono λ e w' ⟨x,e1,hx,hw⟩=>⟨x,e1,hx,?_⟩
 have kperm:∀(a c:List (Nat×Obj)) (b d:List Ow),(Ks (a++c) (b++d)).Perm (Ks a b++Ks c d):=λ a c b d=>by
  unfold Ks
  rw[List.map_append,List.flatMap_append]
  simp only[List.append_assoc]
  refine List.Perm.append_left _ ?_
  rw[<- List.append_assoc,<- List.append_assoc]
  exact List.Perm.append_right _ List.perm_append_comm
 have nd0:=(kperm hs H' os O').nodup_iff.1 h1.dis
 have disj:∀b∈Ks hs os,b∉Ks H' O':=λ b hb hm=>(List.nodup_append.1 nd0).2.2 b hb b hm rfl
 exact h1.li (D:=Ks hs os) (Hm:=[]) (Hc:=hs' x) (H1:=H') (Fc:=Fc x) (Om:=[]) (Oc:=os' x) (O1:=O') hw (λ b hb=>(kperm hs H' os O').mem_iff.2 (List.mem_append_left _ hb))
  (λ p hpm=>.inr ⟨List.mem_append_right _ hpm,λ hm=>disj _ hm (eH.2 (.inl ⟨p,hpm,rfl⟩))⟩)
  (λ o ho=>.inr ⟨List.mem_append_right _ ho,λ b hb hm=>disj _ hm (eH.2 (.inr ⟨o,ho,hb⟩))⟩)
  (List.nodup_append.1 nd0).2.1
end
end Go.Ct
namespace Go.Proofs.YtbajmaoegmbfgaaGreat
section
open Go Go.RowKit Go.Ct
structure EX where
 b:Nat
 k:Cl
 x:XS
 dn:Bool
 rs:Rs
 R:Tr
structure Wd where
 z:XS
 ts:List eQ
 pt:Option Addr
 kt:Nat
 ex:List EX
 pe:Option Addr
 ke:Nat
def Er(bm:Nat)(l:List EX):List (Nat×Obj):=l.map λ e=>(e.b,xO e.k bm e.x e.dn e.rs)
def By(l:List EX):List Ow:=l.flatMap λ e=>[⟨e.x.pg,aH e.x.got,e.x.kg,37,1⟩,⟨e.x.pm,aH e.x.made,e.x.km,37,1⟩,⟨e.x.pl,aH e.x.cel,e.x.kl,27,1⟩,⟨e.x.pe,aH e.x.gns,e.x.ke,3,1⟩]
def sV(l:List EX):List Nat:=l.map EX.b
abbrev wH(m bw bm:Nat)(W:Wd):List (Nat×Obj):=(bw,pC bm (m:Int) W.pt W.ts.length W.kt W.pe (sV W.ex).length W.ke)::(bm,xM W.z)::Er bm W.ex
abbrev wO(W:Wd):List Ow:=⟨W.pt,tP W.ts,W.kt,29,2⟩::⟨W.pe,Az (sV W.ex),W.ke,74,1⟩::⟨W.z.pn,iO W.z.L,W.z.cn,47,14⟩::⟨W.z.pc,aH W.z.cs,W.z.cc,37,1⟩::By W.ex
def XS.wm(x z:XS):XS:={x with L:=z.L,cs:=z.cs,gen:=z.gen,acc:=z.acc,pn:=z.pn,cn:=z.cn,pc:=z.pc,cc:=z.cc}
theorem xr{x z z':XS}{N:List aP}(h:(XS.wm x z).Ok)(h':z'.Ok)(e:z'.L=z.L++N):(XS.wm x z').Ok:=by
 have hl:z.L.length<=z'.L.length:=by rw[e,List.length_append];omega
 exact⟨h'.fit,h'.nd,h'.cs,λ v hv=>by have:=h.got v hv;show v<=z'.L.length;have h2:v<=z.L.length:=this;omega,λ v hv=>by have:=h.made v hv;show v<=z'.L.length;have h2:v<=z.L.length:=this;omega,h'.two,h'.lL,h'.lc,h.lg,h.la,h.lm,h.lk,h.le,h.fr,h'.ys,h'.gen0,h.ms,h.m1⟩
theorem Wl{z:XS}(h:z.Ok):(XS.new z.L z.cs z.gen z.acc z.pn z.cn z.pc z.cc).Ok :=
 ⟨h.fit,h.nd,h.cs,(λ v hv=>nomatch hv),(λ v hv=>nomatch hv),h.two,h.lL,h.lc,Nat.zero_le _,Nat.le_refl _,Nat.le_refl _,Nat.le_refl _,Nat.le_refl _,Nat.zero_le _,h.ys,h.gen0,(λ i j _ hj=>absurd hj (Nat.not_lt_zero j)),(λ v hv=>nomatch hv)⟩
theorem aAc{T:Tr}{x z z':XS}{dn:Bool}{rs:Rs}{R:Tr}{N:List aP}(h:n7 T (XS.wm x z) dn rs R)(h':z'.Ok)(e:z'.L=z.L++N):n7 T (XS.wm x z') dn rs R:=by
 refine⟨xr h.ok h' e,?_,h.nu⟩
 have hw:=h.wk
 show Wk (z'.L.map aP.c) T x.got x.made x.cel x.gns R
 rw[e,List.map_append]
 exact Wk.mono hw
structure EOk(m C:Nat)(z:XS)(e:EX):Prop where
 i:n7 (T0 e.k m) (XS.wm e.x z) e.dn e.rs e.R
 k:7<=e.k.kind/\e.k.kind<=12
 em:e.k.mask=(m:Int)
 ht:e.k.t.root<=9223372036854775807
 ha:e.k.a=0/\e.k.b=0/\e.k.n=0
 gl:e.x.got.length<=C
theorem EOk.wm{m C:Nat}{z z':XS}{e:EX}{N:List aP}(h:EOk m C z e)(h':z'.Ok)(he:z'.L=z.L++N):EOk m C z' e:=⟨aAc h.i h' he,h.k,h.em,h.ht,h.ha,h.gl⟩
theorem Pd{T R:Tr}{x:XS}{dn:Bool}{rs:Rs}(h:n7 T x dn rs R):eS R=true:=by
 rcases h.nu with⟨_,e⟩|⟨_,e⟩
 ·rw[e];rfl
 ·cases R<;>first|rfl|(simp[Tr.acc] at e)
structure Ns(m B C E:Nat)(W:Wd):Prop where
 z:W.z.Ok
 sz:Sz W.z B
 ex:∀e∈W.ex,EOk m C W.z e
 t0:0<W.ts.length
 tr:(W.ts.getD 0 ⟨0,false⟩).ro=false
 tl:W.ts.length<=5
 el:W.ex.length<=E
 wr:WR (H8 m) m W.z.mm W.ts (W.ex.map EX.R)
theorem Ns.root{m B C E:Nat}{W:Wd}(h:Ns m B C E W)(hB:B<=1000000000000){t:eQ}(ht:t∈W.ts):t.root<=9223372036854775807:=by
 obtain⟨σ,hi⟩:=h.wr.inv
 have h1:=(hi.ts t ht).2.1
 have h2:=h.sz.2.1
 have e:σ.cl=W.z.cs.length:=by simp only[Kw.cl,hi.mm];rfl
 omega
theorem Yy{m:Nat}{k:Cl}{ts:List eQ}(hk:7<=k.kind/\k.kind<=12)(hm:m<18446744073709551616)(ht:k.t∈ts)(hky:k.key∈lV)(hro:wrK k.kind->k.t.ro=false){s:Mm}:∀σ:Kw,σ.mm=s->Inv (H8 m) σ->(∀t∈ts,cL σ t)->S9 (H8 m) σ k (mD k.key m):=λ σ _ _ h =>
 ⟨h _ ht,tS _ _,if_pos hky,hro,.inl hk⟩
section
variable{m B C E bw bm:Nat}{D:List Nat}{A:Fr}{w:World}
set_option maxHeartbeats 1000000 in
theorem se{W:Wd}{q:Hu}{kind:Int}(steps:Nat)(hst:steps<=1048576)(hC:steps<=C)(hB:B<=100000000000)(hm:m<18446744073709551616)(hW:Ns m B C E W)(hE:E<=900)(hkd:7<=kind/\kind<=12)(hq:Rh kind W.ts q)(hA:∀f∈aL W.z.L,f∈A)(hs:SF w D (wH m bw bm W) A [] (wO W) w) :
  Calls Tryz.prog 67 #[.pointer (some ⟨bw,0,none⟩),.agg ⟨Rz (q.cl kind m)⟩,.int .i64 (steps:Int)] w λ e w'=>∃r:Wd×List aP,e=.returned (.tuple #[])/\(Ns m (B+64+128*steps) C (E+1) r.1/\r.1.z.L=W.z.L++r.2)/\SF w D (wH m bw bm r.1) [] (aL r.2) (wO r.1) w':=by
 have hwt:=hW.root (by omega) hq.mem
 have hlen:(sV W.ex).length=W.ex.length:=by simp[sV]
 have hel:=hW.el
 have htl:=hW.tl
 have:=Nl (f:=67) (H':=Er bm W.ex) (O':=By W.ex) (hs:=[(bw,pC bm (m:Int) W.pt W.ts.length W.kt W.pe (sV W.ex).length W.ke),(bm,xM W.z)]) (os:=[⟨W.pt,tP W.ts,W.kt,29,2⟩,⟨W.pe,Az (sV W.ex),W.ke,74,1⟩,⟨W.z.pn,iO W.z.L,W.z.cn,47,14⟩,⟨W.z.pc,aH W.z.cs,W.z.cc,37,1⟩]) (A0:=aL W.z.L) hs (List.Perm.refl _) (List.Perm.refl _) (bB.of λ f hf=>.inr (.inl (hA f hf)))
  (λ h=>z4 (k:=q.cl kind m) (m:=m) (B:=B) steps hst hB hW.sz (.inr ⟨hkd.1,hkd.2⟩) hm rfl hwt rfl rfl rfl (λ f hf=>hf) (Wl hW.z) (by omega) (by omega) h)
 refine this.mono λ e w' ⟨⟨bx,y,kq⟩,e1,⟨hi,his,hk⟩,hw⟩=>?_
 replace his:y.i<=steps:=his
 replace hi:Lw (q.cl kind m) m (XS.new W.z.L W.z.cs W.z.gen W.z.acc W.z.pn W.z.cn W.z.pc W.z.cc) B y:=hi
 have hext:y.x.L=W.z.L++y.N:=hi.ext
 obtain⟨j,hrc⟩:=hi.rc
 have hstart:WR (H8 m) m y.x.mm W.ts (y.R::W.ex.map EX.R):=.start hW.wr (Yy hkd hm hq.mem hq.ky hq.ro) hrc (Pd hi.ex)
 have hszy:Sz y.x (B+64+128*steps):=by obtain⟨z1,z2,z3⟩:=hi.sz;exact⟨by omega,by omega,by omega⟩
 have hexs:∀e∈W.ex,EOk m C y.x e:=λ e he=>(hW.ex e he).wm hi.ex.ok hext
 rw[List.append_nil] at hw
 obtain⟨i,x,N,dn,rs,R⟩:=y
 cases dn with
 | true =>
  rcases hk with⟨hd,_⟩|⟨_,he,hts⟩
  ·cases hd
  ·have hR:R=.done rs:=by rcases hi.ex.nu with⟨_,h⟩|⟨h,_⟩;exact h;cases h
   have hL:kq.ts.length<=5/\0<kq.ts.length/\(kq.ts.getD 0 ⟨0,false⟩).ro=false/\WR (H8 m) m x.mm kq.ts (W.ex.map EX.R):=by
    rcases hts with hts|⟨h0,h5,hts⟩
    ·rw[hts];exact⟨hW.tl,hW.t0,hW.tr,by subst hR;exact hstart.drop⟩
    ·refine⟨h5,by rw[hts];simp,?_,?_⟩
     ·rw[hts,jN,List.getElem?_append_left hW.t0,<- jN];exact hW.tr
     ·rw[hts]
      subst hR
      exact(hstart.add h0).drop
   refine⟨(⟨x,kq.ts,kq.pt,kq.kt,W.ex,kq.pe,kq.ke⟩,N),e1,⟨⟨hi.ex.ok,hszy,hexs,hL.2.1,hL.2.2.1,hL.1,by show W.ex.length<=E+1;omega,hL.2.2.2⟩,hext⟩,?_⟩
   have hes:kq.es=sV W.ex:=he
   dsimp only[wH,wO]
   rw[<- hes]
   exact hw.noA
 | false =>
  rcases hk with⟨_,he,hts⟩|⟨hd,_⟩
  ·have hes:sV (W.ex++[⟨bx,q.cl kind m,x,false,rs,R⟩])=kq.es:=by rw[he];simp[sV]
   refine⟨(⟨x,kq.ts,kq.pt,kq.kt,W.ex++[⟨bx,q.cl kind m,x,false,rs,R⟩],kq.pe,kq.ke⟩,N),e1,⟨⟨hi.ex.ok,hszy,λ e he=>?_,by rw[show kq.ts=W.ts from hts];exact hW.t0,by rw[show kq.ts=W.ts from hts];exact hW.tr,by rw[show kq.ts=W.ts from hts];exact hW.tl,by simp;omega,?_⟩,hext⟩,?_⟩
   ·rcases List.mem_append.1 he with he|he
    ·exact hexs e he
    ·rw[List.mem_singleton.1 he]
     exact⟨hi.ex,hkd,rfl,hwt,⟨rfl,rfl,rfl⟩,by have:=hi.gl;show x.got.length<=C;simp only at this his;omega⟩
   ·rw[show kq.ts=W.ts from hts,List.map_append]
    exact hstart.perm (List.perm_append_comm (l₁:=[R]))
   ·dsimp only[wH,wO]
    rw[hes]
    refine hw.noA.perm ?_ ?_
    ·have e2:Er bm (W.ex++[⟨bx,q.cl kind m,x,false,rs,R⟩])=Er bm W.ex++[(bx,xO (q.cl kind m) bm x false rs)]:=by simp[Er]
     rw[e2]
     exact(List.perm_append_comm (l₁:=(bw,_)::(bm,_)::Er bm W.ex) (l₂:=[(bx,xO (q.cl kind m) bm x false rs)]))
    ·have e2:By (W.ex++[⟨bx,q.cl kind m,x,false,rs,R⟩])=By W.ex++xE4 x false:=by simp[By,xE4]
     rw[e2]
     exact(List.perm_append_comm (l₁:=_::_::_::_::By W.ex) (l₂:=xE4 x false))
  ·cases hd
abbrev Wd.go(W:Wd)(z:XS)(ex:List EX):Wd:=⟨z,W.ts,W.pt,W.kt,ex,W.pe,W.ke⟩
def StX(W:Wd)(i:Nat)(z:XS)(ex:List EX):Prop:=∃l1 e e' l2,W.ex=l1++e::l2/\l1.length=i/\ex=l1++e'::l2/\e'.b=e.b/\((e.dn=true/\e'=e)∨(e.dn=false/\∃j,j<=1/\(e'.dn=false->j=1)/\Rc j e.R W.z.mm e'.R z.mm))
theorem ia{l:List EX}{i:Nat}(hi:i<l.length):∃l1 e l2,l=l1++e::l2/\l1.length=i:=by
 refine⟨l.take i,l[i],l.drop (i+1),?_,by simp;omega⟩
 rw[<- List.drop_eq_getElem_cons hi,List.take_append_drop]
theorem aCb{W:Wd}{l1 l2:List EX}{e:EX}(hl:W.ex=l1++e::l2):(wH m bw bm W).Perm (xH e.k e.b bm (XS.wm e.x W.z) e.dn e.rs++((bw,pC bm (m:Int) W.pt W.ts.length W.kt W.pe (sV W.ex).length W.ke)::Er bm (l1++l2))):=by
 have e1:Er bm W.ex=Er bm l1++(e.b,xO e.k bm (XS.wm e.x W.z) e.dn e.rs)::Er bm l2:=by rw[hl];simp only[Er,List.map_append,List.map_cons];rfl
 have e2:Er bm (l1++l2)=Er bm l1++Er bm l2:=by simp[Er]
 dsimp only[wH]
 rw[e1,e2]
 refine(List.Perm.swap _ _ _).trans ?_
 refine(((List.perm_middle (a:=(e.b,xO e.k bm (XS.wm e.x W.z) e.dn e.rs)) (l₁:=Er bm l1) (l₂:=Er bm l2)).cons _).cons _).trans ?_
 refine((List.Perm.swap _ _ _).cons _).trans ?_
 exact List.Perm.swap _ _ _
theorem aBx{W:Wd}{l1 l2:List EX}{e:EX}(hl:W.ex=l1++e::l2):(wO W).Perm (xW (XS.wm e.x W.z)++(⟨W.pt,tP W.ts,W.kt,29,2⟩::⟨W.pe,Az (sV W.ex),W.ke,74,1⟩::By (l1++l2))):=by
 have e1:By W.ex=By l1++(By [e]++By l2):=by rw[hl];simp[By]
 have e2:By (l1++l2)=By l1++By l2:=by simp[By]
 dsimp only[wO]
 rw[e1,e2]
 have hx:xW (XS.wm e.x W.z)=By [e]++[⟨W.z.pn,iO W.z.L,W.z.cn,47,14⟩,⟨W.z.pc,aH W.z.cs,W.z.cc,37,1⟩]:=rfl
 rw[hx]
 generalize By [e]=oe
 generalize By l1=o1
 generalize By l2=o2
 have p1:(o1++(oe++o2)).Perm (oe++(o1++o2)):=by
  rw[<- List.append_assoc,<- List.append_assoc]
  exact List.perm_append_comm.append_right _
 refine((((p1.cons _).cons _).cons _).cons _).trans ?_
 have p2:∀(a b c d:Ow) (l r:List Ow),(a::b::c::d::(l++r)).Perm (l++[c,d]++(a::b::r)):=λ a b c d l r=>by
  have h1:([a,b]++[c,d]++l++r).Perm (l++[c,d]++[a,b]++r):=by
   refine List.Perm.append_right r ?_
   refine List.perm_append_comm.trans ?_
   rw[List.append_assoc]
   exact List.Perm.append_left l List.perm_append_comm
  simpa using h1
 exact p2 _ _ _ _ _ _
theorem mn{W:Wd}{i:Nat}(hi:i<W.ex.length)(hC:C<=1000000000)(hB:B<=100000000000)(hm:m<18446744073709551616)(hW:Ns m B C E W)(hA:∀f∈aL W.z.L,f∈A)(hs:SF w D (wH m bw bm W) A [] (wO W) w) :
  Calls Tryz.prog 68 #[.pointer (some ⟨(sV W.ex).getD i 0,0,none⟩)] w λ e w'=>∃q:XS×List EX×List aP,e=.returned (.tuple #[])/\(Ns m (B+128) (C+1) E (W.go q.1 q.2.1)/\q.1.L=W.z.L++q.2.2/\StX W i q.1 q.2.1)/\SF w D (wH m bw bm (W.go q.1 q.2.1)) [] (aL q.2.2) (wO (W.go q.1 q.2.1)) w':=by
 obtain⟨l1,e,l2,hl,hi1⟩:=ia hi
 have hb:(sV W.ex).getD i 0=e.b:=by rw[hl,<- hi1];simp[sV]
 rw[hb]
 have he:=hW.ex e (by rw[hl];simp)
 have hsz:=hW.sz
 obtain⟨s1,s2,s3⟩:=hsz
 have hgl:=he.gl
 have pH:=aCb (m:=m) (bw:=bw) (bm:=bm) hl
 have pO:=aBx hl
 have key:=Nl (f:=68) (A0:=aL W.z.L) hs pH pO (bB.of λ f hf=>.inr (.inl (hA f hf)))
  (λ h=>cj (x:=XS.wm e.x W.z) (N:=e.x.got.length+1) (n:=1073741824) (m:=m) (pP e.k m (by omega)) (by omega) rfl ⟨by show W.z.L.length<=_;omega,by show W.z.cs.length<=_;omega,by show W.z.gen<=_;omega⟩ he.i (.inr he.k) (Nat.le_refl _) hm he.em he.ht (by rw[he.ha.1];exact bL _) (by rw[he.ha.2.1];exact bL _) (by rw[he.ha.2.2];exact bL _) (λ f hf=>hf) h)
 refine key.mono λ en w' ⟨⟨x',N,dn',rs'⟩,e1,hq,hw⟩=>?_
 rw[List.append_nil] at hw
 rcases hq with⟨hd,hq⟩|⟨hd,hq⟩
 ·have h1:x'=XS.wm e.x W.z:=congrArg (λ q:XS×List aP×Bool×Rs=>q.1) hq
  have h2:N=[]:=congrArg (λ q:XS×List aP×Bool×Rs=>q.2.1) hq
  have h3:dn'=true:=congrArg (λ q:XS×List aP×Bool×Rs=>q.2.2.1) hq
  have h4:rs'=e.rs:=congrArg (λ q:XS×List aP×Bool×Rs=>q.2.2.2) hq
  subst h1 h2 h3 h4
  refine⟨(W.z,W.ex,[]),e1,⟨⟨hW.z,⟨by show W.z.L.length<=_;omega,by show W.z.cs.length<=_;omega,by show W.z.gen<=_;omega⟩,λ x hx=>?_,hW.t0,hW.tr,hW.tl,hW.el,hW.wr⟩,by simp,l1,e,e,l2,hl,hi1,hl,rfl,.inl ⟨hd,rfl⟩⟩,?_⟩
  ·have:=hW.ex x hx
   exact⟨this.i,this.k,this.em,this.ht,this.ha,by have:=this.gl;omega⟩
  ·have hw2:=hw.noA.perm (H':=wH m bw bm W) (O':=wO W) (by rw[hd] at pH;exact pH) pO
   exact hw2
 ·obtain⟨R',j,h1,h2,h3,h4,h5,h6⟩:=zU.exI hq
  have hx':XS.wm x' x'=x':=rfl
  have hext:x'.L=W.z.L++N:=h5
  have hsz':Sz x' (B+128):=Jw he.i hd (pP e.k m (n:=e.x.got.length+1) (by omega)) (Nat.le_refl _) h4 h1 hW.sz
  have hwr:WR (H8 m) m x'.mm W.ts ((l1++⟨e.b,e.k,x',dn',rs',R'⟩::l2).map EX.R):=by
   have w1:=hW.wr
   rw[hl,List.map_append,List.map_cons] at w1
   have w2:=(w1.perm List.perm_middle).step h4 (Pd h3)
   rw[List.map_append,List.map_cons]
   exact w2.perm List.perm_middle.symm
  have hgl':=zU.gl hq
  have hexB:sV (l1++⟨e.b,e.k,x',dn',rs',R'⟩::l2)=sV W.ex:=by rw[hl];simp[sV]
  refine⟨(x',l1++⟨e.b,e.k,x',dn',rs',R'⟩::l2,N),e1,⟨⟨h3.ok,hsz',λ y hy=>?_,hW.t0,hW.tr,hW.tl,by have:=hW.el;rw[hl] at this;simpa using this,hwr⟩,hext,l1,e,⟨e.b,e.k,x',dn',rs',R'⟩,l2,hl,hi1,rfl,rfl,.inr ⟨hd,j,h1,h2,h4⟩⟩,?_⟩
  ·rcases List.mem_append.1 hy with hy|hy
   ·have:=(hW.ex y (by rw[hl];exact List.mem_append_left _ hy)).wm h3.ok hext
    exact⟨this.i,this.k,this.em,this.ht,this.ha,by have:=this.gl;omega⟩
   ·rcases List.mem_cons.1 hy with rfl|hy
    ·exact⟨h3,he.k,he.em,he.ht,he.ha,by show x'.got.length<=C+1;have:x'.got.length<=e.x.got.length+1:=hgl';omega⟩
    ·have:=(hW.ex y (by rw[hl];exact List.mem_append_right _ (List.mem_cons_of_mem _ hy))).wm h3.ok hext
     exact⟨this.i,this.k,this.em,this.ht,this.ha,by have:=this.gl;omega⟩
  ·rw[<- hexB] at hw
   exact hw.noA.perm (aCb (W:=W.go x' (l1++⟨e.b,e.k,x',dn',rs',R'⟩::l2)) rfl) (aBx (W:=W.go x' (l1++⟨e.b,e.k,x',dn',rs',R'⟩::l2)) rfl)
theorem bj{W:Wd}{i:Nat}(hi:i<W.ex.length)(hC:C<=1000000000)(hB:B<=100000000000)(hm:m<18446744073709551616)(hW:Ns m B C E W)(hA:∀f∈aL W.z.L,f∈A)(hs:SF w D (wH m bw bm W) A [] (wO W) w) :
  Calls Tryz.prog 68 #[.pointer (some ⟨(sV W.ex).getD i 0,0,none⟩)] w λ e w'=>∃r:Wd×List aP,e=.returned (.tuple #[])/\(Ns m (B+128) (C+1) E r.1/\r.1.ts=W.ts/\r.1.z.L=W.z.L++r.2)/\SF w D (wH m bw bm r.1) [] (aL r.2) (wO r.1) w' :=
 (mn hi hC hB hm hW hA hs).mono λ _ _ ⟨q,e,h,hw⟩=>⟨(W.go q.1 q.2.1,q.2.2),e,⟨h.1,rfl,h.2.1⟩,hw⟩
end
end

end Go.Proofs.YtbajmaoegmbfgaaGreat
