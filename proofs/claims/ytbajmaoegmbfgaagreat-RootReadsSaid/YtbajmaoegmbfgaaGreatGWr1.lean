/- Worlds by what may happen: memories, tries, what is left of the operations; all keep the labels. -/
import Derived.Test.YtbajmaoegmbfgaaGreatKw8
import Derived.Test.YtbajmaoegmbfgaaGreatGEx12
import Derived.Test.YtbajmaoegmbfgaaGreatGAr9
import Derived.Test.YtbajmaoegmbfgaaGreatGTm2
import Derived.Test.YtbajmaoegmbfgaaGreatGWo4
import Derived.Test.YtbajmaoegmbfgaaGreatTt2
import Derived.Test.YtbajmaoegmbfgaaGreatGTt3

set_option linter.unusedSimpArgs false
set_option linter.unusedVariables false
namespace Go.Ct
section
open Go Go.RowKit
def y7:Mm:=⟨[fW.c,fW.c,eS (({Nd.zero with kind:=3}:Nd).c [] []) 0,eS (({Nd.zero with kind:=2,gen:=1}:Nd).c [] []) 1],[0,3,4],1⟩
end
end Go.Ct
namespace Go.Proofs.YtbajmaoegmbfgaaGreat
section
open Go Go.RowKit Go.Ct
open Classical in
noncomputable def H8 (m:Nat) (k:ByteArray):Nat:=if k∈mZ then mR k m else 18446744073709551616
inductive WR(H:ByteArray->Nat)(m:Nat):Mm->List gY->List Tr->Prop where
 | new:WR H m y7 [⟨3,false⟩] []
 | start {s s':Mm} {ts:List gY} {rs:List Tr} {k:Cl} {n j:Nat} {t':Tr} (h:WR H m s ts rs) (hk:∀σ:Kw,σ.mm=s->Inv H σ->(∀t∈ts,eL σ t)->Rw H σ k (mR k.key m)) (hr:Rc j (kZ k (mR k.key m) n) s t' s') (ha:eW t'=true):WR H m s' ts (t'::rs)
 | step {s s':Mm} {ts:List gY} {rs:List Tr} {j:Nat} {t t':Tr} (h:WR H m s ts (t::rs)) (hr:Rc j t s t' s') (ha:eW t'=true):WR H m s' ts (t'::rs)
 | perm {s:Mm} {ts:List gY} {rs rs':List Tr} (h:WR H m s ts rs) (hp:rs.Perm rs'):WR H m s ts rs'
 | drop {s:Mm} {ts:List gY} {rs:List Tr} {t:Tr} (h:WR H m s ts (t::rs)):WR H m s ts rs
 | add {s:Mm} {ts:List gY} {rs:List Tr} {r:Rs} (h:WR H m s ts (.done r::rs)) (h0:0<r.root):WR H m s (ts++[⟨r.root,r.ro⟩]) (.done r::rs)
structure WI(H:ByteArray->Nat)(s:Mm)(ts:List gY)(rs:List Tr)(σ:Kw):Prop where
 mm:σ.mm=s
 inv:Inv H σ
 ts:∀t∈ts,eL σ t
 rs:∀t∈rs,eW t=true/\WT H Q0 t σ
def kw0:Kw:=⟨⟨[fW.c,fW.c],[],0⟩,λ _=>[],λ _=>0,λ _=>.no⟩
theorem vl{r:Int}(h1:1<=r)(h2:r<=2):kw0.nd r=fW.c:=by
 have:r=1∨r=2:=by omega
 rcases this with rfl|rfl<;>rfl
theorem Th(H:ByteArray->Nat):Inv H kw0:=by
 refine⟨by decide,rfl,rfl,Int.le_refl _,Oa (Int.le_refl _),λ r h1 h2=>?_,λ c h1 h2=>?_⟩
 ·have h2':r<=2:=h2
  have e:=vl h1 h2'
  have hok:=Ko (gen:=0) (n:=2) (Int.le_refl _)
  refine⟨by rw[e];exact hok.1,by rw[e];exact Int.le_refl _,by rw[e];exact⟨bM _,bM _,bM _,(λ r hr=>nomatch hr),bM _,bM _,bM _,jO,jO⟩,λ k=>?_,λ k=>?_,λ k=>?_,λ k=>?_,λ k=>?_,λ k=>?_,λ k=>?_⟩<;>rw[e] at k
  ·exact fA (a:=1) (b:=2) k
  ·exact fA (a:=1) (b:=3) k
  ·exact fA (a:=1) (b:=4) k
  ·exact fA (a:=1) (b:=5) k
  ·exact fA (a:=1) (b:=6) k
  ·exact fA (a:=1) (b:=7) k
  ·exact fA (a:=1) (b:=8) k
 ·exact absurd h2 (by show ¬c<=((0:Nat):Int);omega)
def Te:Tr:=.alloc Lf 0 λ c=>.gen λ g=>.alloc (sW g) c λ j=>.cell j λ r=>.done (Ns r false)
theorem Xe{H:ByteArray->Nat}{σ:Kw}(i0:Inv H σ):WT H Q0 Te σ:=by
 have hg:=i0.gen
 have hnew:lS H σ Lf ([]:List Nat) (σ.mm.gen+1):=nB (b:=0) (xs:=[]) i0 Lk (λ j hj v hv=>by simp[sX] at hv) (by simp) (λ h=>absurd h (by decide))
 refine gC i0 hnew (qS i0 (λ e=>fA (a:=3) (b:=2) e)) λ ρ e0 cl l3 i4 _ em e1 e2 e3 h1 h2=>?_
 have hem:qZ ρ e0 [] (σ.mm.gen+1):=oS (cl:=0) (.inl rfl) e1 e2 e3
 have hgr:ρ.mm.gen=σ.mm.gen:=by rw[em];rfl
 refine K2 i4 λ χ l4 i5 e4=>?_
 exact rL (g:=ρ.mm.gen+1) i5 (by omega) (by omega) (by simp) (hem.up l4) (by omega) λ ψ j l5 i6 hj=>Dn false i6 hj.1 λ ω c l6 i7 h0 hc=>λ _=>hc
theorem Xk:Rc 0 Te kw0.mm (.done (Ns 3 false)) y7 :=
 .jP (.jP (.jP (.jP (Rc.refl _ _) (Sp.alloc _ _ _ _)) (Sp.gen _ _)) (Sp.alloc _ _ _ _)) (Sp.cell _ _ _)
theorem Tj{H:ByteArray->Nat}:∀(r:Rs) (σ τ:Kw),Inv H σ->Inv H τ->Le σ τ->Q0 r σ->Q0 r τ:=λ _ _ _ _ _ l h=>h.up l
theorem WR.inv{H:ByteArray->Nat}{m:Nat}{s:Mm}{ts:List gY}{rs:List Tr}(h:WR H m s ts rs):∃σ,WI H s ts rs σ:=by
 induction h with
 | new =>
  obtain⟨υ,l,i,e,hq⟩:=WT.rc Xk rfl (Th H) (Xe (Th H))
  refine⟨υ,e,i,λ t ht=>?_,λ t ht=>nomatch ht⟩
  rw[List.mem_singleton.1 ht]
  exact hq (by decide)
 | start _ hk hr ha ih =>
  obtain⟨σ,hi⟩:=ih
  obtain⟨υ,l,i,e,hw⟩:=WT.rc hr hi.mm hi.inv (n8 hi.inv (hk σ hi.mm hi.inv hi.ts) _)
  refine⟨υ,e,i,λ t ht=>(hi.ts t ht).up l,λ t ht=>?_⟩
  rcases List.mem_cons.1 ht with rfl|ht
  ·exact⟨ha,hw⟩
  ·exact⟨(hi.rs t ht).1,WT.mono Tj (hi.rs t ht).1 hi.inv i l (hi.rs t ht).2⟩
 | step _ hr ha ih =>
  obtain⟨σ,hi⟩:=ih
  obtain⟨υ,l,i,e,hw⟩:=WT.rc hr hi.mm hi.inv (hi.rs _ (List.mem_cons_self ..)).2
  refine⟨υ,e,i,λ t ht=>(hi.ts t ht).up l,λ t ht=>?_⟩
  rcases List.mem_cons.1 ht with rfl|ht
  ·exact⟨ha,hw⟩
  ·have:=hi.rs t (List.mem_cons_of_mem _ ht)
   exact⟨this.1,WT.mono Tj this.1 hi.inv i l this.2⟩
 | perm _ hp ih =>
  obtain⟨σ,hi⟩:=ih
  exact⟨σ,hi.mm,hi.inv,hi.ts,λ t ht=>hi.rs t (hp.mem_iff.2 ht)⟩
 | drop _ ih =>
  obtain⟨σ,hi⟩:=ih
  exact⟨σ,hi.mm,hi.inv,hi.ts,λ t ht=>hi.rs t (List.mem_cons_of_mem _ ht)⟩
 | add _ h0 ih =>
  obtain⟨σ,hi⟩:=ih
  refine⟨σ,hi.mm,hi.inv,λ t ht=>?_,hi.rs⟩
  rcases List.mem_append.1 ht with ht|ht
  ·exact hi.ts t ht
  ·rw[List.mem_singleton.1 ht]
   exact(hi.rs _ (List.mem_cons_self ..)).2 h0
end

/- Worlds: the state of a world; an operation is run in it, an execution makes a step. -/
end Go.Proofs.YtbajmaoegmbfgaaGreat
namespace Go.Ct
section
open Go Go.RowKit
section
variable{α:Type}
theorem lX.pre:∀(es r:List α),lX (es++r) (List.replicate es.length 0) es r
 | [],r=>.nil
 | a::es,r=>.cons .head (lX.pre es r)
end
theorem tQ{P:Program}{f:FuncId}{vs:Array Value}{X:Type}{V:X->Value}{φ:X->Prop}{w0 w:World}{M:List Nat}{H hs H':List (Nat×Obj)}{A A0 F:Fr}{O os O':List Ow}{hs':X->List (Nat×Obj)}{os':X->List Ow}{Fc:X->Fr}
  (h:SF w0 M H A F O w) (pH:H.Perm (hs++H')) (pO:O.Perm (os++O')) (hA:bB A F O' A0)
  (hc:SF w (Ks hs os) hs A0 [] os w->Calls P f vs w λ e w'=>∃x,e=.returned (V x)/\φ x/\SF w (Ks hs os) (hs' x) [] (Fc x) (os' x) w') :
  Calls P f vs w λ e w'=>∃x,e=.returned (V x)/\φ x/\SF w0 M (hs' x++H') A (Fc x++F) (os' x++O') w':=by
 have h1:=h.perm pH.symm pO.symm
 refine(hc (h1.pE (lX.pre hs H') (lX.pre os O') hA)).mono λ e w' ⟨x,e1,hx,hw⟩=>⟨x,e1,hx,?_⟩
 have kperm:∀(a c:List (Nat×Obj)) (b d:List Ow),(Ks (a++c) (b++d)).Perm (Ks a b++Ks c d):=λ a c b d=>by
  unfold Ks
  rw[List.map_append,List.flatMap_append]
  simp only[List.append_assoc]
  refine List.Perm.append_left _ ?_
  rw[<- List.append_assoc,<- List.append_assoc]
  exact List.Perm.append_right _ List.perm_append_comm
 have nd0:=(kperm hs H' os O').nodup_iff.1 h1.dis
 have disj:∀b∈Ks hs os,b∉Ks H' O':=λ b hb hm=>(List.nodup_append.1 nd0).2.2 b hb b hm rfl
 exact h1.Y5 (D:=Ks hs os) (Hm:=[]) (Hc:=hs' x) (H1:=H') (Fc:=Fc x) (Om:=[]) (Oc:=os' x) (O1:=O') hw (λ b hb=>(kperm hs H' os O').mem_iff.2 (List.mem_append_left _ hb))
  (λ p hpm=>.inr ⟨List.mem_append_right _ hpm,λ hm=>disj _ hm (eY.2 (.inl ⟨p,hpm,rfl⟩))⟩)
  (λ o ho=>.inr ⟨List.mem_append_right _ ho,λ b hb hm=>disj _ hm (eY.2 (.inr ⟨o,ho,hb⟩))⟩)
  (List.nodup_append.1 nd0).2.1
end
end Go.Ct
namespace Go.Proofs.YtbajmaoegmbfgaaGreat
section
open Go Go.RowKit Go.Ct
structure EX where
 b:Nat
 k:Cl
 x:XS
 dn:Bool
 rs:Rs
 R:Tr
structure Wd where
 z:XS
 ts:List gY
 pt:Option Addr
 kt:Nat
 ex:List EX
 pe:Option Addr
 ke:Nat
def qJ(bm:Nat)(l:List EX):List (Nat×Obj):=l.map λ e=>(e.b,xO e.k bm e.x e.dn e.rs)
def oP(l:List EX):List Ow:=l.flatMap λ e=>[⟨e.x.pg,aG e.x.got,e.x.kg,37,1⟩,⟨e.x.pm,aG e.x.made,e.x.km,37,1⟩,⟨e.x.pl,aG e.x.cel,e.x.kl,27,1⟩,⟨e.x.pe,aG e.x.gns,e.x.ke,3,1⟩]
def tS(l:List EX):List Nat:=l.map EX.b
abbrev wH(m bw bm:Nat)(W:Wd):List (Nat×Obj):=(bw,oH bm (m:Int) W.pt W.ts.length W.kt W.pe (tS W.ex).length W.ke)::(bm,xM W.z)::qJ bm W.ex
abbrev wO(W:Wd):List Ow:=⟨W.pt,sF W.ts,W.kt,29,2⟩::⟨W.pe,Aj (tS W.ex),W.ke,74,1⟩::⟨W.z.pn,iO W.z.L,W.z.cn,47,14⟩::⟨W.z.pc,aG W.z.cs,W.z.cc,37,1⟩::oP W.ex
def XS.wm(x z:XS):XS:={x with L:=z.L,cs:=z.cs,gen:=z.gen,acc:=z.acc,pn:=z.pn,cn:=z.cn,pc:=z.pc,cc:=z.cc}
theorem u5{x z z':XS}{N:List aX}(h:(XS.wm x z).Ok)(h':z'.Ok)(e:z'.L=z.L++N):(XS.wm x z').Ok:=by
 have hl:z.L.length<=z'.L.length:=by rw[e,List.length_append];omega
 exact⟨h'.fit,h'.nd,h'.cs,λ v hv=>by have:=h.got v hv;show v<=z'.L.length;have h2:v<=z.L.length:=this;omega,λ v hv=>by have:=h.made v hv;show v<=z'.L.length;have h2:v<=z.L.length:=this;omega,h'.two,h'.lL,h'.lc,h.lg,h.la,h.lm,h.lk,h.le,h.fr,h'.ys,h'.gen0,h.ms,h.m1⟩
theorem Tu{z:XS}(h:z.Ok):(XS.new z.L z.cs z.gen z.acc z.pn z.cn z.pc z.cc).Ok :=
 ⟨h.fit,h.nd,h.cs,(λ v hv=>nomatch hv),(λ v hv=>nomatch hv),h.two,h.lL,h.lc,Nat.zero_le _,Nat.le_refl _,Nat.le_refl _,Nat.le_refl _,Nat.le_refl _,Nat.zero_le _,h.ys,h.gen0,(λ i j _ hj=>absurd hj (Nat.not_lt_zero j)),(λ v hv=>nomatch hv)⟩
theorem Yc{T:Tr}{x z z':XS}{dn:Bool}{rs:Rs}{R:Tr}{N:List aX}(h:iw T (XS.wm x z) dn rs R)(h':z'.Ok)(e:z'.L=z.L++N):iw T (XS.wm x z') dn rs R:=by
 refine⟨u5 h.ok h' e,?_,h.R7⟩
 have hw:=h.wk
 show Wk (z'.L.map aX.c) T x.got x.made x.cel x.gns R
 rw[e,List.map_append]
 exact Wk.mono hw
structure EOk(m C:Nat)(z:XS)(e:EX):Prop where
 i:iw (T0 e.k m) (XS.wm e.x z) e.dn e.rs e.R
 k:7<=e.k.kind/\e.k.kind<=12
 em:e.k.mask=(m:Int)
 ht:e.k.t.root<=9223372036854775807
 ha:e.k.a=0/\e.k.b=0/\e.k.n=0
 gl:e.x.got.length<=C
theorem EOk.wm{m C:Nat}{z z':XS}{e:EX}{N:List aX}(h:EOk m C z e)(h':z'.Ok)(he:z'.L=z.L++N):EOk m C z' e:=⟨Yc h.i h' he,h.k,h.em,h.ht,h.ha,h.gl⟩
theorem uW{T R:Tr}{x:XS}{dn:Bool}{rs:Rs}(h:iw T x dn rs R):eW R=true:=by
 rcases h.R7 with⟨_,e⟩|⟨_,e⟩
 ·rw[e];rfl
 ·cases R<;>first|rfl|(simp[Tr.acc] at e)
structure T9(m B C E:Nat)(W:Wd):Prop where
 z:W.z.Ok
 sz:Sz W.z B
 ex:∀e∈W.ex,EOk m C W.z e
 t0:0<W.ts.length
 tr:(W.ts.getD 0 ⟨0,false⟩).ro=false
 tl:W.ts.length<=5
 el:W.ex.length<=E
 wr:WR (H8 m) m W.z.mm W.ts (W.ex.map EX.R)
theorem T9.root{m B C E:Nat}{W:Wd}(h:T9 m B C E W)(hB:B<=1000000000000){t:gY}(ht:t∈W.ts):t.root<=9223372036854775807:=by
 obtain⟨σ,hi⟩:=h.wr.inv
 have h1:=(hi.ts t ht).2.1
 have h2:=h.sz.2.1
 have e:σ.cl=W.z.cs.length:=by simp only[Kw.cl,hi.mm];rfl
 omega
theorem Vt{m:Nat}{k:Cl}{ts:List gY}(hk:7<=k.kind/\k.kind<=12)(hm:m<18446744073709551616)(ht:k.t∈ts)(hky:k.key∈mZ)(hro:wrK k.kind->k.t.ro=false){s:Mm}:∀σ:Kw,σ.mm=s->Inv (H8 m) σ->(∀t∈ts,eL σ t)->Rw (H8 m) σ k (mR k.key m):=λ σ _ _ h =>
 ⟨h _ ht,sU _ _,if_pos hky,λ e=>hro (by unfold wrK;rcases e with e|e<;>simp[e]),.inl hk⟩
section
variable{m B C E bw bm:Nat}{D:List Nat}{A:Fr}{w:World}
set_option maxHeartbeats 1000000 in
theorem mx{W:Wd}{q:Ef}{kind:Int}(steps:Nat)(hst:steps<=1048576)(hC:steps<=C)(hB:B<=100000000000)(hm:m<18446744073709551616)(hW:T9 m B C E W)(hE:E<=900)(hkd:7<=kind/\kind<=12)(hq:O6 kind W.ts q)(hA:∀f∈aR W.z.L,f∈A)(hs:SF w D (wH m bw bm W) A [] (wO W) w) :
  Calls Tryz.prog 67 #[.pointer (some ⟨bw,0,none⟩),.agg ⟨Pt (q.cl kind m)⟩,.int .i64 (steps:Int)] w λ e w'=>∃r:Wd×List aX,e=.returned (.tuple #[])/\(T9 m (B+64+128*steps) C (E+1) r.1/\r.1.z.L=W.z.L++r.2)/\SF w D (wH m bw bm r.1) [] (aR r.2) (wO r.1) w':=by
 have hwt:=hW.root (by omega) hq.mem
 have hlen:(tS W.ex).length=W.ex.length:=by simp[tS]
 have hel:=hW.el
 have htl:=hW.tl
 have:=tQ (f:=67) (H':=qJ bm W.ex) (O':=oP W.ex) (hs:=[(bw,oH bm (m:Int) W.pt W.ts.length W.kt W.pe (tS W.ex).length W.ke),(bm,xM W.z)]) (os:=[⟨W.pt,sF W.ts,W.kt,29,2⟩,⟨W.pe,Aj (tS W.ex),W.ke,74,1⟩,⟨W.z.pn,iO W.z.L,W.z.cn,47,14⟩,⟨W.z.pc,aG W.z.cs,W.z.cc,37,1⟩]) (A0:=aR W.z.L) hs (List.Perm.refl _) (List.Perm.refl _) (bB.of λ f hf=>.inr (.inl (hA f hf)))
  (λ h=>tv (k:=q.cl kind m) (m:=m) (B:=B) steps hst hB hW.sz (.inr ⟨hkd.1,hkd.2⟩) hm rfl hwt rfl rfl rfl (λ f hf=>hf) (Tu hW.z) (by omega) (by omega) h)
 refine this.mono λ e w' ⟨⟨bx,y,kq⟩,e1,⟨hi,his,hk⟩,hw⟩=>?_
 replace his:y.i<=steps:=his
 replace hi:L5 (q.cl kind m) m (XS.new W.z.L W.z.cs W.z.gen W.z.acc W.z.pn W.z.cn W.z.pc W.z.cc) B y:=hi
 have hext:y.x.L=W.z.L++y.N:=hi.ext
 obtain⟨j,hrc⟩:=hi.rc
 have hstart:WR (H8 m) m y.x.mm W.ts (y.R::W.ex.map EX.R):=.start hW.wr (Vt hkd hm hq.mem hq.ky hq.ro) hrc (uW hi.ex)
 have hszy:Sz y.x (B+64+128*steps):=by obtain⟨z1,z2,z3⟩:=hi.sz;exact⟨by omega,by omega,by omega⟩
 have hexs:∀e∈W.ex,EOk m C y.x e:=λ e he=>(hW.ex e he).wm hi.ex.ok hext
 rw[List.append_nil] at hw
 obtain⟨i,x,N,dn,rs,R⟩:=y
 cases dn with
 | true =>
  rcases hk with⟨hd,_⟩|⟨_,he,hts⟩
  ·cases hd
  ·have hR:R=.done rs:=by rcases hi.ex.R7 with⟨_,h⟩|⟨h,_⟩;exact h;cases h
   have hL:kq.ts.length<=5/\0<kq.ts.length/\(kq.ts.getD 0 ⟨0,false⟩).ro=false/\WR (H8 m) m x.mm kq.ts (W.ex.map EX.R):=by
    rcases hts with hts|⟨h0,h5,hts⟩
    ·rw[hts];exact⟨hW.tl,hW.t0,hW.tr,hstart.drop⟩
    ·refine⟨h5,by rw[hts];simp,?_,?_⟩
     ·rw[hts,lB,List.getElem?_append_left hW.t0,<- lB];exact hW.tr
     ·rw[hts]
      subst hR
      exact(hstart.add h0).drop
   refine⟨(⟨x,kq.ts,kq.pt,kq.kt,W.ex,kq.pe,kq.ke⟩,N),e1,⟨⟨hi.ex.ok,hszy,hexs,hL.2.1,hL.2.2.1,hL.1,by show W.ex.length<=E+1;omega,hL.2.2.2⟩,hext⟩,?_⟩
   have hes:kq.es=tS W.ex:=he
   dsimp only[wH,wO]
   rw[<- hes]
   exact hw.l7
 | false =>
  rcases hk with⟨_,he,hts⟩|⟨hd,_⟩
  ·have hes:tS (W.ex++[⟨bx,q.cl kind m,x,false,rs,R⟩])=kq.es:=by rw[he];simp[tS]
   refine⟨(⟨x,kq.ts,kq.pt,kq.kt,W.ex++[⟨bx,q.cl kind m,x,false,rs,R⟩],kq.pe,kq.ke⟩,N),e1,⟨⟨hi.ex.ok,hszy,λ e he=>?_,by rw[show kq.ts=W.ts from hts];exact hW.t0,by rw[show kq.ts=W.ts from hts];exact hW.tr,by rw[show kq.ts=W.ts from hts];exact hW.tl,by simp;omega,?_⟩,hext⟩,?_⟩
   ·rcases List.mem_append.1 he with he|he
    ·exact hexs e he
    ·rw[List.mem_singleton.1 he]
     exact⟨hi.ex,hkd,rfl,hwt,⟨rfl,rfl,rfl⟩,by have:=hi.gl;show x.got.length<=C;simp only at this his;omega⟩
   ·rw[show kq.ts=W.ts from hts,List.map_append]
    exact hstart.perm (List.perm_append_comm (l₁:=[R]))
   ·dsimp only[wH,wO]
    rw[hes]
    refine hw.l7.perm ?_ ?_
    ·have e2:qJ bm (W.ex++[⟨bx,q.cl kind m,x,false,rs,R⟩])=qJ bm W.ex++[(bx,xO (q.cl kind m) bm x false rs)]:=by simp[qJ]
     rw[e2]
     exact(List.perm_append_comm (l₁:=(bw,_)::(bm,_)::qJ bm W.ex) (l₂:=[(bx,xO (q.cl kind m) bm x false rs)]))
    ·have e2:oP (W.ex++[⟨bx,q.cl kind m,x,false,rs,R⟩])=oP W.ex++xE4 x false:=by simp[oP,xE4]
     rw[e2]
     exact(List.perm_append_comm (l₁:=_::_::_::_::oP W.ex) (l₂:=xE4 x false))
  ·cases hd
theorem bj{W:Wd}{i:Nat}(hi:i<W.ex.length)(hC:C<=1000000000)(hB:B<=100000000000)(hm:m<18446744073709551616)(hW:T9 m B C E W)(hA:∀f∈aR W.z.L,f∈A)(hs:SF w D (wH m bw bm W) A [] (wO W) w) :
  Calls Tryz.prog 68 #[.pointer (some ⟨(tS W.ex).getD i 0,0,none⟩)] w λ e w'=>∃r:Wd×List aX,e=.returned (.tuple #[])/\(T9 m (B+128) (C+1) E r.1/\r.1.ts=W.ts/\r.1.z.L=W.z.L++r.2)/\SF w D (wH m bw bm r.1) [] (aR r.2) (wO r.1) w':=by
 obtain⟨l1,e,l2,hl⟩:∃l1 e l2,W.ex=l1++e::l2/\l1.length=i:=by
  refine⟨W.ex.take i,W.ex[i],W.ex.drop (i+1),?_,by simp;omega⟩
  rw[<- List.drop_eq_getElem_cons hi,List.take_append_drop]
 obtain⟨hl,hi1⟩:=hl
 have hb:(tS W.ex).getD i 0=e.b:=by rw[hl,<- hi1];simp[tS]
 rw[hb]
 have he:=hW.ex e (by rw[hl];simp)
 have hsz:=hW.sz
 obtain⟨s1,s2,s3⟩:=hsz
 have hgl:=he.gl
 have pH:(wH m bw bm W).Perm (xH e.k e.b bm (XS.wm e.x W.z) e.dn e.rs++((bw,oH bm (m:Int) W.pt W.ts.length W.kt W.pe (tS W.ex).length W.ke)::qJ bm (l1++l2))):=by
  have e1:qJ bm W.ex=qJ bm l1++(e.b,xO e.k bm (XS.wm e.x W.z) e.dn e.rs)::qJ bm l2:=by rw[hl];simp only[qJ,List.map_append,List.map_cons];rfl
  have e2:qJ bm (l1++l2)=qJ bm l1++qJ bm l2:=by simp[qJ]
  dsimp only[wH]
  rw[e1,e2]
  refine(List.Perm.swap _ _ _).trans ?_
  refine(((List.perm_middle (a:=(e.b,xO e.k bm (XS.wm e.x W.z) e.dn e.rs)) (l₁:=qJ bm l1) (l₂:=qJ bm l2)).cons _).cons _).trans ?_
  refine((List.Perm.swap _ _ _).cons _).trans ?_
  exact List.Perm.swap _ _ _
 have pO:(wO W).Perm (xW (XS.wm e.x W.z)++(⟨W.pt,sF W.ts,W.kt,29,2⟩::⟨W.pe,Aj (tS W.ex),W.ke,74,1⟩::oP (l1++l2))):=by
  have e1:oP W.ex=oP l1++(oP [e]++oP l2):=by rw[hl];simp[oP]
  have e2:oP (l1++l2)=oP l1++oP l2:=by simp[oP]
  dsimp only[wO]
  rw[e1,e2]
  have hx:xW (XS.wm e.x W.z)=oP [e]++[⟨W.z.pn,iO W.z.L,W.z.cn,47,14⟩,⟨W.z.pc,aG W.z.cs,W.z.cc,37,1⟩]:=rfl
  rw[hx]
  generalize oP [e]=oe
  generalize oP l1=o1
  generalize oP l2=o2
  have p1:(o1++(oe++o2)).Perm (oe++(o1++o2)):=by
   rw[<- List.append_assoc,<- List.append_assoc]
   exact List.perm_append_comm.append_right _
  refine((((p1.cons _).cons _).cons _).cons _).trans ?_
  have p2:∀(a b c d:Ow) (l r:List Ow),(a::b::c::d::(l++r)).Perm (l++[c,d]++(a::b::r)):=λ a b c d l r=>by
   have h1:([a,b]++[c,d]++l++r).Perm (l++[c,d]++[a,b]++r):=by
    refine List.Perm.append_right r ?_
    refine List.perm_append_comm.trans ?_
    rw[List.append_assoc]
    exact List.Perm.append_left l List.perm_append_comm
   simpa using h1
  exact p2 _ _ _ _ _ _
 have key:=tQ (f:=68) (A0:=aR W.z.L) hs pH pO (bB.of λ f hf=>.inr (.inl (hA f hf)))
  (λ h=>Q7 (x:=XS.wm e.x W.z) (N:=e.x.got.length+1) (n:=1073741824) (m:=m) (mN e.k m (by omega)) (by omega) rfl ⟨by show W.z.L.length<=_;omega,by show W.z.cs.length<=_;omega,by show W.z.gen<=_;omega⟩ he.i (.inr he.k) (Nat.le_refl _) hm he.em he.ht (by rw[he.ha.1];exact bM _) (by rw[he.ha.2.1];exact bM _) (by rw[he.ha.2.2];exact bM _) (λ f hf=>hf) h)
 refine key.mono λ en w' ⟨⟨x',N,dn',rs'⟩,e1,hq,hw⟩=>?_
 rw[List.append_nil] at hw
 rcases hq with⟨hd,hq⟩|⟨hd,hq⟩
 ·have h1:x'=XS.wm e.x W.z:=congrArg (λ q:XS×List aX×Bool×Rs=>q.1) hq
  have h2:N=[]:=congrArg (λ q:XS×List aX×Bool×Rs=>q.2.1) hq
  have h3:dn'=true:=congrArg (λ q:XS×List aX×Bool×Rs=>q.2.2.1) hq
  have h4:rs'=e.rs:=congrArg (λ q:XS×List aX×Bool×Rs=>q.2.2.2) hq
  subst h1 h2 h3 h4
  refine⟨(W,[]),e1,⟨⟨hW.z,⟨by show W.z.L.length<=_;omega,by show W.z.cs.length<=_;omega,by show W.z.gen<=_;omega⟩,λ x hx=>?_,hW.t0,hW.tr,hW.tl,hW.el,hW.wr⟩,rfl,by simp⟩,?_⟩
  ·have:=hW.ex x hx
   exact⟨this.i,this.k,this.em,this.ht,this.ha,by have:=this.gl;omega⟩
  ·have hw2:=hw.l7.perm (H':=wH m bw bm W) (O':=wO W) (by rw[hd] at pH;exact pH) pO
   exact hw2
 ·obtain⟨R',j,h1,h2,h3,h4,h5,h6⟩:=vX.exI hq
  have hx':XS.wm x' x'=x':=rfl
  have hext:x'.L=W.z.L++N:=h5
  have hsz':Sz x' (B+128):=Bw he.i hd (mN e.k m (n:=e.x.got.length+1) (by omega)) (Nat.le_refl _) h4 h1 hW.sz
  have hwr:WR (H8 m) m x'.mm W.ts ((l1++⟨e.b,e.k,x',dn',rs',R'⟩::l2).map EX.R):=by
   have w1:=hW.wr
   rw[hl,List.map_append,List.map_cons] at w1
   have w2:=(w1.perm List.perm_middle).step h4 (uW h3)
   rw[List.map_append,List.map_cons]
   exact w2.perm List.perm_middle.symm
  have hgl':=vX.gl hq
  have hexB:tS (l1++⟨e.b,e.k,x',dn',rs',R'⟩::l2)=tS W.ex:=by rw[hl];simp[tS]
  refine⟨({W with z:=x',ex:=l1++⟨e.b,e.k,x',dn',rs',R'⟩::l2},N),e1,⟨⟨h3.ok,hsz',λ y hy=>?_,hW.t0,hW.tr,hW.tl,by have:=hW.el;rw[hl] at this;simpa using this,hwr⟩,rfl,hext⟩,?_⟩
  ·rcases List.mem_append.1 hy with hy|hy
   ·have:=(hW.ex y (by rw[hl];exact List.mem_append_left _ hy)).wm h3.ok hext
    exact⟨this.i,this.k,this.em,this.ht,this.ha,by have:=this.gl;omega⟩
   ·rcases List.mem_cons.1 hy with rfl|hy
    ·exact⟨h3,he.k,he.em,he.ht,he.ha,by show x'.got.length<=C+1;have:x'.got.length<=e.x.got.length+1:=hgl';omega⟩
    ·have:=(hW.ex y (by rw[hl];exact List.mem_append_right _ (List.mem_cons_of_mem _ hy))).wm h3.ok hext
     exact⟨this.i,this.k,this.em,this.ht,this.ha,by have:=this.gl;omega⟩
  ·refine hw.l7.perm ?_ ?_
   ·have e1:qJ bm (l1++⟨e.b,e.k,x',dn',rs',R'⟩::l2)=qJ bm l1++(e.b,xO e.k bm x' dn' rs')::qJ bm l2:=by simp only[qJ,List.map_append,List.map_cons]
    have e2:qJ bm (l1++l2)=qJ bm l1++qJ bm l2:=by simp[qJ]
    dsimp only[wH]
    rw[hexB,e1,e2]
    refine(List.Perm.swap _ _ _).trans ?_
    refine(((List.perm_middle (a:=(e.b,xO e.k bm x' dn' rs')) (l₁:=qJ bm l1) (l₂:=qJ bm l2)).cons _).cons _).trans ?_
    refine((List.Perm.swap _ _ _).cons _).trans ?_
    exact List.Perm.swap _ _ _
   ·have e1:oP (l1++⟨e.b,e.k,x',dn',rs',R'⟩::l2)=oP l1++(oP [⟨e.b,e.k,x',dn',rs',R'⟩]++oP l2):=by simp[oP]
    have e2:oP (l1++l2)=oP l1++oP l2:=by simp[oP]
    dsimp only[wO]
    rw[hexB,e1,e2]
    have hx:xW x'=oP [⟨e.b,e.k,x',dn',rs',R'⟩]++[⟨x'.pn,iO x'.L,x'.cn,47,14⟩,⟨x'.pc,aG x'.cs,x'.cc,37,1⟩]:=rfl
    rw[hx]
    generalize oP [⟨e.b,e.k,x',dn',rs',R'⟩]=oe
    generalize oP l1=o1
    generalize oP l2=o2
    have p1:(o1++(oe++o2)).Perm (oe++(o1++o2)):=by
     rw[<- List.append_assoc,<- List.append_assoc]
     exact List.perm_append_comm.append_right _
    refine((((p1.cons _).cons _).cons _).cons _).trans ?_
    have p2:∀(a b c d:Ow) (l r:List Ow),(a::b::c::d::(l++r)).Perm (l++[c,d]++(a::b::r)):=λ a b c d l r=>by
     have h1:([a,b]++[c,d]++l++r).Perm (l++[c,d]++[a,b]++r):=by
      refine List.Perm.append_right r ?_
      refine List.perm_append_comm.trans ?_
      rw[List.append_assoc]
      exact List.Perm.append_left l List.perm_append_comm
     simpa using h1
    exact p2 _ _ _ _ _ _
end
end

/- Tasks of the program side by side with executions of the reference: the state; one of the two makes a step. -/
end Go.Proofs.YtbajmaoegmbfgaaGreat
namespace Go.Ct
section
open Go Go.RowKit
section
variable{α:Type}
theorem sn(x y t:α)(t1 t2 e:List α):(x::y::((t1++t::t2)++e)).Perm ([t,x]++(y::((t1++t2)++e))):=by
 have h1:((t1++t::t2)++e).Perm (t::((t1++t2)++e)):=(List.perm_middle (a:=t) (l₁:=t1) (l₂:=t2)).append_right e
 refine((h1.cons y).cons x).trans ?_
 exact((List.Perm.swap t y _).cons x).trans (List.Perm.swap t x _)
theorem uo(x y e:α)(t e1 e2:List α):(x::y::(t++(e1++e::e2))).Perm ([e,y]++(x::(t++(e1++e2)))):=by
 have h1:(t++(e1++e::e2)).Perm (e::(t++(e1++e2))):=((List.perm_middle (a:=e) (l₁:=e1) (l₂:=e2)).append_left t).trans List.perm_middle
 refine((h1.cons y).cons x).trans ?_
 refine((List.Perm.swap e y _).cons x).trans ?_
 refine(List.Perm.swap e x _).trans ?_
 exact(List.Perm.swap y x _).cons e
theorem wj(a b c d:α)(m1 m m2:List α):(a::b::c::d::(m1++(m++m2))).Perm ((m++[c,d])++(a::b::(m1++m2))):=by
 have h1:(m1++(m++m2)).Perm (m++(m1++m2)):=by
  rw[<- List.append_assoc,<- List.append_assoc]
  exact List.perm_append_comm.append_right m2
 refine((((h1.cons d).cons c).cons b).cons a).trans ?_
 have h2:([a,b]++[c,d]++m++(m1++m2)).Perm (m++[c,d]++[a,b]++(m1++m2)):=by
  refine List.Perm.append_right _ ?_
  refine List.perm_append_comm.trans ?_
  rw[List.append_assoc]
  exact List.Perm.append_left m List.perm_append_comm
 simpa using h2
end
inductive Xj:Nat->Mm×List (Tr×Nat)->Mm×List (Tr×Nat)->Prop where
 | refl (p):Xj 0 p p
 | step {i p s l1 l2 R n}:Xj i p (s,l1++(R,n)::l2)->R.live=true->Xj (i+1) p ((A4 (R,s)).2,l1++((A4 (R,s)).1,n+1)::l2)
end
end Go.Ct
namespace Go.Proofs.YtbajmaoegmbfgaaGreat
section
open Go Go.RowKit Go.Ct
theorem Zd{t t':Tr}{s s':Mm}{j:Nat}(h:Rc j t s t' s')(hj:j=0)(ht:eW t=true):t'=t/\s'=s:=by
 induction h with
 | refl t s=>exact⟨rfl,rfl⟩
 | jP _ hs ih =>
  obtain⟨e1,e2⟩:=ih hj ht
  subst e1
  cases hs<;>cases ht
 | loud _ _ _=>cases hj
structure PX where
 e:EX
 m:Nat
 tb:Nat
 c:Cd
 n:Nat
structure LS where
 a:AS
 z:XS
 l:List PX
 B:Fr
def jh(b:Nat)(l:List PX):List (Nat×Obj):=l.map λ p=>(p.tb,tO b p.c p.n)
abbrev rH(ba bm:Nat)(S:LS):List (Nat×Obj):=(ba,fM S.a)::(bm,xM S.z)::(jh ba S.l++qJ bm (S.l.map PX.e))
abbrev tC(S:LS):List Ow:=⟨S.a.pn,iO S.a.L,S.a.cn,47,14⟩::⟨S.a.pc,aG S.a.cs,S.a.cc,37,1⟩::⟨S.z.pn,iO S.z.L,S.z.cn,47,14⟩::⟨S.z.pc,aG S.z.cs,S.z.cc,37,1⟩::oP (S.l.map PX.e)
structure Sk(C:Nat)(z:XS)(p:PX):Prop where
 i:iw (T0 p.e.k p.m) (XS.wm p.e.x z) p.e.dn p.e.rs p.e.R
 kk:Xo p.e.k
 m:p.m<18446744073709551616
 em:p.e.k.mask=(p.m:Int)
 ht:p.e.k.t.root<=9223372036854775807
 ha:p.e.k.a<=z.L.length
 hb:p.e.k.b<=z.L.length
 hn:p.e.k.n<=z.L.length
 gl:p.e.x.got.length=p.n
 gc:p.n<=C
theorem Sk.wm{C:Nat}{z z':XS}{p:PX}{N:List aX}(h:Sk C z p)(h':z'.Ok)(he:z'.L=z.L++N):Sk C z' p :=
 have hl:z.L.length<=z'.L.length:=by rw[he,List.length_append];omega
 ⟨Yc h.i h' he,h.kk,h.m,h.em,h.ht,by have:=h.ha;omega,by have:=h.hb;omega,by have:=h.hn;omega,h.gl,h.gc⟩
theorem Sk.mono{C C':Nat}{z:XS}{p:PX}(h:Sk C z p)(hc:C<=C'):Sk C' z p:=⟨h.i,h.kk,h.m,h.em,h.ht,h.ha,h.hb,h.hn,h.gl,Nat.le_trans h.gc hc⟩
structure H4(ba Bz C:Nat)(S:LS):Prop where
 z:S.z.Ok
 a:S.a.Ok
 mm:S.a.mm=S.z.mm
 sz:Sz S.z Bz
 p:∀p∈S.l,Sk C S.z p
 rp:∀p∈S.l,kW ba p.e.R S.z.mm p.c S.z.mm S.B
theorem Sk.rest{C:Nat}{z:XS}{p:PX}(h:Sk C z p):eW p.e.R=true:=uW h.i
theorem Sk.rR{C:Nat}{z:XS}{p:PX}(h:Sk C z p)(hC:C<1000000000):bY p.e.R 2 64:=by
 obtain⟨c,h1,h2,_⟩:=h.i.wk.rR (n:=p.n+2) (Nat.le_refl 64) (mN _ _ (by have:=h.gc;omega)) (by show p.e.x.got.length<=_;rw[h.gl];omega)
 have hl:p.n+2-(XS.wm p.e.x z).got.length=2:=by show p.n+2-p.e.x.got.length=2;rw[h.gl];omega
 rw[hl] at h1
 rcases h.i.R7 with⟨_,e⟩|⟨_,e⟩
 ·rw[e];trivial
 ·exact Hg e h1 (by decide)
theorem Sk.live{C:Nat}{z:XS}{p:PX}(h:Sk C z p):p.e.R.live=!p.e.dn:=by
 rcases h.i.R7 with⟨e1,e⟩|⟨e1,e⟩
 ·rw[e,e1];rfl
 ·rw[e1]
  cases hR:p.e.R with
  | done r=>rw[hR] at e;simp[Tr.acc] at e
  | _=>rfl
theorem Lv(b:Nat)(l1 l2:List PX)(p:PX):jh b (l1++p::l2)=jh b l1++(p.tb,tO b p.c p.n)::jh b l2:=by simp[jh]
theorem cz(bm:Nat)(l1 l2:List PX)(p:PX):qJ bm ((l1++p::l2).map PX.e)=qJ bm (l1.map PX.e)++(p.e.b,xO p.e.k bm p.e.x p.e.dn p.e.rs)::qJ bm (l2.map PX.e):=by simp[qJ]
theorem uj(l1 l2:List PX)(p:PX):oP ((l1++p::l2).map PX.e)=oP (l1.map PX.e)++(oP [p.e]++oP (l2.map PX.e)):=by simp[oP]
section
variable{ba bm:Nat}
theorem qa(a:AS)(z:XS)(B:Fr)(l1 l2:List PX)(p:PX):(rH ba bm ⟨a,z,l1++p::l2,B⟩).Perm ([(p.tb,tO ba p.c p.n),(ba,fM a)]++((bm,xM z)::((jh ba l1++jh ba l2)++qJ bm ((l1++p::l2).map PX.e)))):=by
 dsimp only[rH]
 rw[Lv]
 exact sn _ _ _ _ _ _
theorem Yi(a:AS)(z:XS)(B:Fr)(l1 l2:List PX)(p:PX):(rH ba bm ⟨a,z,l1++p::l2,B⟩).Perm (xH p.e.k p.e.b bm (XS.wm p.e.x z) p.e.dn p.e.rs++((ba,fM a)::(jh ba (l1++p::l2)++(qJ bm (l1.map PX.e)++qJ bm (l2.map PX.e))))):=by
 dsimp only[rH]
 rw[cz]
 exact uo _ _ _ _ _ _
theorem Vf(a:AS)(z:XS)(B:Fr)(l1 l2:List PX)(p:PX):(tC ⟨a,z,l1++p::l2,B⟩).Perm (xW (XS.wm p.e.x z)++(⟨a.pn,iO a.L,a.cn,47,14⟩::⟨a.pc,aG a.cs,a.cc,37,1⟩::(oP (l1.map PX.e)++oP (l2.map PX.e)))):=by
 dsimp only[tC]
 rw[uj]
 exact wj _ _ _ _ _ _ _
end
section
variable{ba bm Bz C:Nat}{D:List Nat}{A:Fr}{w:World}{a:AS}{z:XS}{l1 l2:List PX}{p:PX}{B:Fr}
theorem zy(hS:H4 ba Bz C ⟨a,z,l1++p::l2,B⟩)(hd:p.e.dn=false)(hB:Bz<=100000000000)(hC:C<900000000)(hA1:∀f∈aR a.L,f∈A)(hA2:∀f∈B,f∈A)(hs:SF w D (rH ba bm ⟨a,z,l1++p::l2,B⟩) A [] (tC ⟨a,z,l1++p::l2,B⟩) w) :
  Calls Tryz.prog 37 #[.pointer (some ⟨p.tb,0,none⟩)] w λ e w'=>∃y:Cd×Fr×AS,e=.returned (.tuple #[])/\pZ ba (A4 (p.e.R,z.mm)) a B y/\SF w D (rH ba bm ⟨y.2.2,z,l1++{p with c:=y.1,n:=p.n+1}::l2,B⟩) [] y.2.1 (tC ⟨y.2.2,z,l1++{p with c:=y.1,n:=p.n+1}::l2,B⟩) w':=by
 have hp:p∈l1++p::l2:=List.mem_append_right _ (List.mem_cons_self ..)
 have hpk:=hS.p p hp
 have hmm:a.mm=z.mm:=hS.mm
 have hrp:kW ba p.e.R a.mm p.c a.mm B:=by rw[hmm];exact hS.rp p hp
 have hsm:a.mm.Small:=by
  rw[hmm]
  have h:=hS.sz
  have h1:z.L.length<=Bz:=h.1
  have h2:z.cs.length<=Bz:=h.2.1
  refine⟨?_,?_⟩
  ·show(z.L.map aX.c).length<=_
   rw[List.length_map]
   omega
  ·show z.cs.length<=_
   omega
 have key:=tQ (P:=Tryz.prog) (f:=37) (vs := #[.pointer (some ⟨p.tb,0,none⟩)]) (hs:=[(p.tb,tO ba p.c p.n),(ba,fM a)]) (os:=fX a) (A0:=aR a.L++B) (V:=λ _:Cd×Fr×AS=>.tuple #[]) (hs':=λ y=>[(p.tb,tO ba y.1 (p.n+1)),(ba,fM y.2.2)]) (os':=λ y=>fX y.2.2) (Fc:=λ y=>y.2.1) hs (qa a z B l1 l2 p) (List.Perm.refl _) (bB.of λ f hf=>.inr (.inl ((List.mem_append.1 hf).elim (hA1 f) (hA2 f))))
  (λ h=>Ii (i:=1) (m:=64) (hpk.rR (by omega)) hpk.rest (by rw[hpk.live,hd];rfl) hrp hS.a hsm (by have:=hpk.gc;omega) (λ f hf=>List.mem_append_left _ hf) (λ f hf=>List.mem_append_right _ hf) h)
 refine key.mono λ e w' ⟨y,e1,hy,hw⟩=>⟨y,e1,by rw[<- hmm];exact hy.1,?_⟩
 rw[List.append_nil] at hw
 have e:((l1++{p with c:=y.1,n:=p.n+1}::l2).map PX.e)=(l1++p::l2).map PX.e:=by simp
 refine hw.l7.perm ?_ ?_
 ·have pH:=qa (ba:=ba) (bm:=bm) y.2.2 z B l1 l2 {p with c:=y.1,n:=p.n+1}
  rw[e] at pH
  exact pH
 ·show List.Perm (_::_::_::_::oP ((l1++{p with c:=y.1,n:=p.n+1}::l2).map PX.e)) _
  rw[e]
  exact List.Perm.refl _
theorem y9{c':Cd}{F':Fr}{a':AS}(hS:H4 ba Bz C ⟨a,z,l1++p::l2,B⟩)(hd:p.e.dn=false)(hB:Bz<=100000000000)(hC:C<900000000)(hy:pZ ba (A4 (p.e.R,z.mm)) a B (c',F',a'))(hA:∀f∈aR z.L,f∈A)(hs:SF w D (rH ba bm ⟨a',z,l1++{p with c:=c',n:=p.n+1}::l2,B⟩) A [] (tC ⟨a',z,l1++{p with c:=c',n:=p.n+1}::l2,B⟩) w) :
  Calls Tryz.prog 68 #[.pointer (some ⟨p.e.b,0,none⟩)] w λ e w'=>∃q:LS×List aX,e=.returned (.tuple #[])/\(H4 ba (Bz+128) (C+1) q.1/\q.1.a=a'/\q.1.B=F'++B/\q.1.z.L=z.L++q.2/\(∃p',q.1.l=l1++p'::l2/\p'.e.b=p.e.b/\p'.tb=p.tb/\p'.n=p.n+1/\p'.e.R=(A4 (p.e.R,z.mm)).1/\p'.e.k=p.e.k/\p'.m=p.m)/\q.1.z.mm=(A4 (p.e.R,z.mm)).2)/\SF w D (rH ba bm q.1) [] (aR q.2) (tC q.1) w':=by
 have hp:p∈l1++p::l2:=List.mem_append_right _ (List.mem_cons_self ..)
 have hpk:=hS.p p hp
 obtain⟨s1,s2,s3⟩:=hS.sz
 simp only at s1 s2 s3
 have hgl:=hpk.gl
 have hgc:=hpk.gc
 have key:=tQ (P:=Tryz.prog) (f:=68) (vs := #[.pointer (some ⟨p.e.b,0,none⟩)]) (hs:=xH p.e.k p.e.b bm (XS.wm p.e.x z) p.e.dn p.e.rs) (os:=xW (XS.wm p.e.x z)) (A0:=aR z.L) hs (Yi a' z B l1 l2 {p with c:=c',n:=p.n+1}) (Vf a' z B l1 l2 {p with c:=c',n:=p.n+1}) (bB.of λ f hf=>.inr (.inl (hA f hf)))
  (λ h=>Q7 (x:=XS.wm p.e.x z) (N:=p.e.x.got.length+1) (n:=1073741824) (m:=p.m) (mN p.e.k p.m (by omega)) (by omega) rfl ⟨by show z.L.length<=_;omega,by show z.cs.length<=_;omega,by show z.gen<=_;omega⟩ hpk.i hpk.kk (Nat.le_refl _) hpk.m hpk.em hpk.ht hpk.ha hpk.hb hpk.hn (λ f hf=>hf) h)
 refine key.mono λ en w' ⟨⟨x',N,dn',rs'⟩,e1,hq,hw⟩=>?_
 rw[List.append_nil] at hw
 rcases hq with⟨hd',_⟩|⟨_,hq⟩
 ·rw[hd] at hd';cases hd'
 ·obtain⟨R1,j1,g1,g2,g3,g4,g5,g6,g7⟩:=vX.exN hq
  replace g4:Rc j1 p.e.R z.mm R1 x'.mm:=g4
  have h5:x'.L=z.L++N:=g5
  have hpl:p.e.R.live=true:=by rw[hpk.live,hd];rfl
  have hj1:j1=1:=by
   rcases Nat.lt_or_ge j1 1 with h|h
   ·exfalso
    have e0:j1=0:=by omega
    obtain⟨e2,_⟩:=Zd g4 e0 hpk.rest
    rcases g3.R7 with⟨_,e3⟩|⟨e3,_⟩
    ·rw[<- e2,e3] at hpl;cases hpl
    ·have:=g2 e3;omega
   ·omega
  subst hj1
  have est:A4 (p.e.R,z.mm)=(R1,x'.mm):=s7 g4 hpk.rest (uW g3)
  have hgot:x'.got.length=p.n+1:=by have:x'.got.length+1=p.e.x.got.length+1+1:=g7;omega
  have hsz':Sz x' (Bz+128):=Bw hpk.i hd (mN p.e.k p.m (n:=p.e.x.got.length+1) (by omega)) (Nat.le_refl _) g4 g1 hS.sz
  have hlen:z.L.length<=x'.L.length:=by rw[h5,List.length_append];omega
  have hle:z.mm.Le x'.mm:=⟨⟨N.map aX.c,by show x'.L.map aX.c=_;rw[h5,List.map_append];rfl⟩,g6⟩
  obtain⟨⟨y1,y2⟩,y3,y4⟩:=hy
  rw[est] at y1 y2
  have hr:∀q∈l1++p::l2,kW ba q.e.R x'.mm q.c x'.mm (F'++B):=λ q hq=>((hS.rp q hq).le (hS.p q hq).rest hle).more λ x hx=>List.mem_append_right _ hx
  have hpo:∀q∈l1++p::l2,Sk (C+1) x' q:=λ q hq=>((hS.p q hq).wm g3.ok h5).mono (Nat.le_succ _)
  refine⟨(⟨a',x',l1++⟨⟨p.e.b,p.e.k,x',dn',rs',R1⟩,p.m,p.tb,c',p.n+1⟩::l2,F'++B⟩,N),e1,⟨⟨g3.ok,y3,y2,hsz',λ q hq=>?_,λ q hq=>?_⟩,rfl,rfl,h5,⟨_,rfl,rfl,rfl,rfl,by rw[est],rfl,rfl⟩,by rw[est]⟩,?_⟩
  ·rcases List.mem_append.1 hq with hq|hq
   ·exact hpo q (List.mem_append_left _ hq)
   ·rcases List.mem_cons.1 hq with rfl|hq
    ·exact⟨g3,hpk.kk,hpk.m,hpk.em,hpk.ht,by have:=hpk.ha;simp only at this ⊢;omega,by have:=hpk.hb;simp only at this ⊢;omega,by have:=hpk.hn;simp only at this ⊢;omega,hgot,by show p.n+1<=C+1;omega⟩
    ·exact hpo q (List.mem_append_right _ (List.mem_cons_of_mem _ hq))
  ·rcases List.mem_append.1 hq with hq|hq
   ·exact hr q (List.mem_append_left _ hq)
   ·rcases List.mem_cons.1 hq with rfl|hq
    ·exact y1
    ·exact hr q (List.mem_append_right _ (List.mem_cons_of_mem _ hq))
  ·have pH:=Yi (ba:=ba) (bm:=bm) a' x' (F'++B) l1 l2 ⟨⟨p.e.b,p.e.k,x',dn',rs',R1⟩,p.m,p.tb,c',p.n+1⟩
   have pO:=Vf a' x' (F'++B) l1 l2 ⟨⟨p.e.b,p.e.k,x',dn',rs',R1⟩,p.m,p.tb,c',p.n+1⟩
   refine hw.l7.perm (pH.trans ?_) (pO.trans ?_)
   ·refine List.Perm.of_eq ?_
    rw[Lv,Lv]
    rfl
   ·exact List.Perm.refl _
end
end

end Go.Proofs.YtbajmaoegmbfgaaGreat
