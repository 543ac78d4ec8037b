/- Pairs: an arena is made of a memory; a pair is added. -/
import Derived.Test.YtbajmaoegmbfgaaGreatGWo6
import Derived.Test.YtbajmaoegmbfgaaGreatGTkd
import Derived.Test.YtbajmaoegmbfgaaGreatGRt1
import Derived.Test.YtbajmaoegmbfgaaGreatGFd2
import Derived.Test.YtbajmaoegmbfgaaGreatGLk3
import Derived.Test.YtbajmaoegmbfgaaGreatGWr1

set_option linter.unusedSimpArgs false
set_option linter.unusedVariables false
namespace Go.Ct
section
open Go Go.RowKit
abbrev XS.a0(z:XS):XS:={z with acc:=0}
theorem XS.Ok.mo{x:XS}(h:x.Ok):Xg x.mm:=by
 have hl:x.mm.nodes.length=x.L.length:=by show(x.L.map aZ.c).length=_;rw[List.length_map]
 refine⟨λ v hv=>?_,λ v hv=>?_,by have:=h.two;omega⟩
 ·obtain⟨u,hu,rfl⟩:=List.mem_map.1 hv
  rw[hl]
  exact h.nd u hu
 ·rw[hl];exact h.cs v hv
end
end Go.Ct
namespace Go.Proofs.YtbajmaoegmbfgaaGreat
section
open Go Go.RowKit Go.Ct
abbrev H2(z:XS):List Ow:=[⟨z.pn,gN z.L,z.cn,47,14⟩,⟨z.pc,aG z.cs,z.cc,37,1⟩]
theorem Yf{bm:Nat}{z:XS}{D:List Nat}{A:Fr}{w:World}(ok:z.Ok)(hp:jW z.L z.cs z.gen)(hl:z.L.length<=137438953472)(hc:z.cs.length<=137438953472)(hA:∀f∈aM z.L,f∈A)(hs:SF w D [(bm,xM z)] A [] (H2 z) w) :
    Calls Tryz.prog 24 #[.pointer (some ⟨bm,0,none⟩)] w λ e w'=>∃q:Nat×AS,e=.returned (.pointer (some ⟨q.1,0,none⟩))/\(q.2.mm=z.mm/\q.2.Ok)/\SF w D ([(bm,xM z.a0)]++[(q.1,eX q.2)]) [] (aM q.2.L) (H2 z++fU q.2) w':=by
  refine enter Tryz.func24 Tryz.ntmps24 rfl rfl hs ?_
  simp only[bY]
  refine cR ?_;refine Ew ?_;refine aB (aN (k:=3) rf cL dJ (by simp only[List.drop_zero,List.take_succ_cons,List.take_zero];exact rfl) rfl) rfl ?_;refine aC (Rx (V:=λ x:Nat×List aZ×(Option Addr×Nat)×(Option Addr×Nat)=>.tuple #[.pointer (some ⟨x.1,0,none⟩),.int .i64 0]) (Hc:=λ x=>[(x.1,aO x.2.1 z.cs z.gen 0 x.2.2.1.1 x.2.2.1.2 x.2.2.2.1 x.2.2.2.2)]) (Fc:=λ x=>aM x.2.1) (Oc:=λ x=>mW x.2.1 z.cs x.2.2.1.1 x.2.2.1.2 x.2.2.2.1 x.2.2.2.2) (hc:=λ w1 hw=>Z0 (L:=z.L) (cs:=z.cs) (hw.K0 (.inr (.inr (.inr ⟨_,.head _,rfl,rfl⟩))) (.inr (.inr (.inr ⟨_,.tail _ (.head _),rfl,rfl⟩))) (λ f hf=>.inr (.inl (hA f hf))) ok.fit) (by omega) (by omega) (hw.qp .head) hp)) (λ x10 h10=>?_);refine No ?_;refine J8 ?_;refine kM ?_;refine qA ?_;refine aH ?_
  refine bE (λ c14=>?_) (λ c14=>?_)
  · exact nv c14
  · refine bB ?_;refine J13 ?_;refine uN ?_;refine J2 ?_;refine J1 ?_
    refine aT Tryz.results24 (λ w hw=>?_)
    have e1:(⟨x10.2.1,z.cs,z.gen,0,x10.2.2.1.1,x10.2.2.1.2,x10.2.2.2.1,x10.2.2.2.2⟩:AS).mm=z.mm:=by
     show Mm.mk ((cB x10.2.1).map aZ.c) z.cs z.gen=Mm.mk (z.L.map aZ.c) z.cs z.gen
     rw[h10.1]
    refine⟨(x10.1,⟨x10.2.1,z.cs,z.gen,0,x10.2.2.1.1,x10.2.2.1.2,x10.2.2.2.1,x10.2.2.2.2⟩),rfl,⟨e1,⟨h10.2,by rw[e1];exact ok.mo⟩⟩,?_⟩
    exact(hw.perm (H':=[(bm,xM z.a0),(x10.1,_)]) (O':=H2 z++mW x10.2.1 z.cs x10.2.2.1.1 x10.2.2.1.2 x10.2.2.2.1 x10.2.2.2.2) (List.Perm.swap _ _ _) (List.perm_append_comm (l₁:=H2 z))).ret (List.Sublist.refl _) (aY.iP λ f hf=>by simpa using hf) (List.Sublist.refl _)
theorem Ek.add{ba Bz C m bx tb:Nat}{S:LS}{k:Cl}{x1:XS}{N:List aZ}{dn:Bool}{rs:Rs}{c:Cd}{F:Fr}{a1:AS}(hS:Ek ba Bz C S)(hq:qB (T0 k m) (T0 k m) 0 0 Rs.zero (XS.new S.z.L S.z.cs S.z.gen S.z.acc S.z.pn S.z.cn S.z.pc S.z.cc) x1 N dn rs)(ho:mS ba (Ct.eV (T0 k m) S.a.mm) S.a S.B (c,F,a1))(hk:Yt k)(hm:m<18446744073709551616)(em:k.mask=(m:Int))(ht:k.t.root<=9223372036854775807)(ha:k.a<=S.z.L.length)(hb:k.b<=S.z.L.length)(hn:k.n<=S.z.L.length) :
  ∃R,Ek ba (Bz+64) C ⟨a1,x1,S.l++[⟨⟨bx,k,x1,dn,rs,R⟩,m,tb,c,0⟩],F++S.B⟩/\x1.mm=(Ct.eV (T0 k m) S.z.mm).2/\R=(Ct.eV (T0 k m) S.z.mm).1:=by
 obtain⟨R,j,h1,h2,h3,h4,h5,h6,h7⟩:=hq.exN
 have hj:j=0:=by omega
 subst hj
 replace h5:x1.L=S.z.L++N:=h5
 replace h4:Rc 0 (T0 k m) S.z.mm R x1.mm:=h4
 have est:Ct.eV (T0 k m) S.z.mm=(R,x1.mm):=ee h4 (mA h3)
 have hlen:S.z.L.length<=x1.L.length:=by rw[h5,List.length_append];omega
 have hle:S.z.mm.Le x1.mm:=⟨⟨N.map aZ.c,by show x1.L.map aZ.c=_;rw[h5,List.map_append];rfl⟩,h6⟩
 rw[hS.mm] at ho
 obtain⟨⟨y1,y2⟩,y3,y4⟩:=ho
 rw[est] at y1 y2
 have hg:x1.got.length=0:=by have:x1.got.length+0=0+0:=h7;omega
 refine⟨R,⟨h3.ok,y3,y2,zG (jS k m (n:=0) (by decide)) h4 (Nat.le_refl _) hS.sz,λ q hq=>?_,λ q hq=>?_⟩,by rw[est],by rw[est]⟩
 ·rcases List.mem_append.1 hq with hq|hq
  ·exact((hS.p q hq).wm h3.ok h5)
  ·rw[List.mem_singleton.1 hq]
   exact⟨h3,hk,hm,em,ht,by show k.a<=x1.L.length;omega,by show k.b<=x1.L.length;omega,by show k.n<=x1.L.length;omega,hg,Nat.zero_le _⟩
 ·rcases List.mem_append.1 hq with hq|hq
  ·exact((hS.rp q hq).le (hS.p q hq).rest hle).more λ x hx=>List.mem_append_right _ hx
  ·rw[List.mem_singleton.1 hq]
   exact y1
theorem Ek.none{ba Bz:Nat}{a:AS}{z:XS}(hz:z.Ok)(ha:a.Ok)(hm:a.mm=z.mm)(hs:Sz z Bz):Ek ba Bz 0 ⟨a,z,[],[]⟩:=⟨hz,ha,hm,hs,(λ p hp=>nomatch hp),(λ p hp=>nomatch hp)⟩
theorem sX{m B C E:Nat}{W:Wd}(h:Q2 m B C E W):jW W.z.L W.z.cs W.z.gen:=by
 obtain⟨σ,hi⟩:=h.wr.inv
 have e1:σ.mm.nodes=W.z.L.map aZ.c:=by rw[hi.mm];rfl
 have e2:σ.mm.cs=W.z.cs:=by rw[hi.mm];rfl
 have e3:σ.mm.gen=W.z.gen:=by rw[hi.mm];rfl
 have:=hi.inv.prop
 rw[e2,e3] at this
 exact this.to e1.symm
theorem zM:dM Tryz.prog 108 76 [.pointer none,.pointer none]:=lZ (z:=.agg ⟨[.pointer none,.pointer none]⟩) (by kernel_rfl) (by kernel_rfl) rfl
theorem Ey{f:FuncId}{vs:Array Value}{w:World}{D:List Nat}{b:Nat}{φ:Nat×Cd×Fr×AS->Prop}(h:Calls Tryz.prog f vs w λ e w'=>∃x:Nat×Cd×Fr×AS,e=.returned (.pointer (some ⟨x.1,0,none⟩))/\φ x/\SF w D [(x.1,tO b x.2.1 0),(b,eX x.2.2.2)] [] x.2.2.1 (fU x.2.2.2) w') :
  Calls Tryz.prog f vs w λ e w'=>∃x:Nat×Cd×Fr×AS,e=.returned (.pointer (some ⟨x.1,0,none⟩))/\φ x/\SF w D ([(b,eX x.2.2.2)]++[(x.1,tO b x.2.1 0)]) [] x.2.2.1 (fU x.2.2.2++[]) w' :=
 h.mono λ _ _ ⟨x,e,h,hw⟩=>⟨x,e,h,by rw[List.append_nil];exact hw.perm (List.Perm.swap _ _ _) (List.Perm.refl _)⟩
end

/- root: Replace. -/
section
open Go Go.RowKit Go.Ct
section
variable{D:List Nat}{A B:Fr}{a:AS}{b:Nat}{w:World}{f:FuncId}{cap:List Value}{t:fL}
end
end

/- root: the tasks. -/
section
open Go Go.RowKit Go.Ct
section
variable{D:List Nat}{A B:Fr}{a:AS}{b:Nat}{w:World}{f:FuncId}{cap:List Value}{t:fL}
end
end

/- The laws of root: a world, an arena, a trie; the sanity check. -/
end Go.Proofs.YtbajmaoegmbfgaaGreat
namespace Go.Ct
section
open Go Go.RowKit
end
end Go.Ct
namespace Go.Proofs.YtbajmaoegmbfgaaGreat
section
open Go Go.RowKit Go.Ct
structure TQ where
 bw:Nat
 bm:Nat
 m:Nat
 W:Wd
 ba:Nat
 a:AS
 j:Nat
 tp:Nat
 pos:Nat
structure aCC(q:TQ):Prop where
 m:q.m<18446744073709551616
 W:Q2 q.m 2415922570 1048594 18 q.W
 j:q.j<q.W.ts.length
 mm:q.a.mm=q.W.z.mm
 a:q.a.Ok
theorem vd{z:XS}(h:z.Ok):z.a0.Ok:=⟨h.fit,h.nd,h.cs,h.got,h.made,h.two,h.lL,h.lc,h.lg,h.la,h.lm,h.lk,h.le,h.fr,h.ys,h.gen0,h.ms,h.m1⟩
end

/- The laws of root: the sanity check. -/
section
open Go Go.RowKit Go.Ct
theorem W7(x y:AX):jW (L4 x y) [0,3,4] 1 :=
 sX (m:=0) (B:=8) (C:=0) (E:=0) (W:=⟨XS.new (L4 x y) [0,3,4] 1 0 none 0 none 0,[⟨3,false⟩],none,0,[],none,0⟩) ⟨P9 _ _ _ _ _ _ _,⟨by show 4<=8;decide,by show 3<=8;decide,by show(1:Int)<=((8:Nat):Int);decide⟩,(λ e he=>nomatch he),by show 0<1;decide,rfl,by show 1<=5;decide,Nat.le_refl _,.new⟩
section
variable{D:List Nat}{A B:Fr}{a0 a:AS}{b bt n m most:Nat}{w:World}{c:Cd}{F:Fr}{p:Tr×Mm}
theorem fl(hp:mS b p a0 B (c,F,a))(ha:dG p.1=true)(ht:bQ p.1 m 64)(hmm:most<=m)(hm:p.2.nodes.length+64*most<=137438953472/\p.2.cs.length+64*most<=137438953472)(hn:n+most<1000000000)(hA:∀f∈aM a.L,f∈A)(hB:∀x∈F++B,x∈A)(hs:SF w D [(bt,tO b c n),(b,eX a)] A [] (fU a) w) :
  Calls Tryz.prog 30 #[.pointer (some ⟨bt,0,none⟩),.int .i64 ((most:Nat):Int)] w λ e w'=>∃y:Cd×Fr×AS,e=.returned (.int .i64 ((rM p most:Nat):Int))/\TkI b (mN p most) a (F++B) y/\SF w D [(bt,tO b y.1 (n+rM p most)),(b,eX y.2.2)] [] y.2.1 (fU y.2.2) w':=by
 obtain⟨⟨h1,h2⟩,h3,h4⟩:=hp
 simp only at h1 h2 h3
 have e:(p.1,a.mm)=p:=by rw[h2]
 have:=Z8 (b:=b) (bt:=bt) (n:=n) (D:=D) (A:=A) (B:=F++B) (w:=w) (most:=most) ht hmm ha (a:=a) (c:=c) (by rw[h2];exact h1) h3 (by rw[h2];exact hm) hn hA hB hs
 rw[e] at this
 exact this
end
end

/- find: the sanity check. -/
section
open Go Go.RowKit Go.Ct
structure my(x0:XS)(y:RY):Prop where
 run:I2 kA 63 x0 8 y
 rn:mN (Ct.eV ptT zV) y.i=(y.R,y.x.mm)
 i:y.i<=8
section
variable{x0 x':XS}{N':List aZ}{dn:Bool}{rs:Rs}{y:RY}
theorem fh(e0:x0.mm=zV)(hs:Sz x0 8)(h:qB (T0 kA 63) (T0 kA 63) 0 0 Rs.zero x0 x' N' dn rs):∃R,my x0 ⟨0,x',N',dn,rs,R⟩:=by
 obtain⟨R',j,h1,h2,h3,h4,h5,h6⟩:=h.exI
 have hj:j=0:=by omega
 subst hj
 refine⟨R',⟨h3,⟨0,h4⟩,h5,h6,by have:=h.gl;show x'.got.length<=0;omega,zG (jS kA 63 (n:=0) (by decide)) h4 h1 hs⟩,?_,Nat.zero_le _⟩
 have:=ee h4 (mA h3)
 rw[e0] at this
 exact this
theorem my.lt(h:my x0 y)(hd:y.dn=false):y.i<8:=by
 rcases Nat.lt_or_ge y.i 8 with h1|h1
 ·exact h1
 ·exfalso
  have h2:=h.rn
  rw[show y.i=8 from Nat.le_antisymm h.i h1,V9] at h2
  have h3:y.R=.done (oA false 0):=(congrArg Prod.fst h2).symm
  rcases h.run.ex.M2 with⟨h4,_⟩|⟨_,h4⟩
  ·rw[hd] at h4;cases h4
  ·rw[h3] at h4;simp[Tr.acc] at h4
theorem my.step(h:my x0 y)(hd:y.dn=false)(hq:qB (T0 kA 63) y.R 1 (y.x.got.length+1) y.rs y.x x' N' dn rs):∃R,my x0 ⟨y.i+1,x',y.N++N',dn,rs,R⟩:=by
 have hi:=h.lt hd
 obtain⟨R1,j1,g1,g2,g3,g4,g5,g6,g7⟩:=hq.exN
 have hpl:y.R.live=true:=by
  rcases h.run.ex.M2 with⟨h4,_⟩|⟨_,h4⟩
  ·rw[hd] at h4;cases h4
  ·cases hR:y.R with
   | done r=>rw[hR] at h4;simp[Tr.acc] at h4
   | _=>rfl
 have hr:=mA h.run.ex
 have hj1:j1=1:=by
  rcases Nat.lt_or_ge j1 1 with h|h
  ·exfalso
   have e0:j1=0:=by omega
   obtain⟨e2,_⟩:=O2 g4 e0 hr
   rcases g3.M2 with⟨_,e3⟩|⟨e3,_⟩
   ·rw[<- e2,e3] at hpl;cases hpl
   ·have:=g2 e3;omega
  ·omega
 subst hj1
 have est:tS (y.R,y.x.mm)=(R1,x'.mm):=cr g4 hr (mA g3)
 obtain⟨j0,hj0⟩:=h.run.rc
 have hg:=h.run.gl
 refine⟨R1,⟨g3,⟨j0+1,hj0.trans g4⟩,by show x'.L=_;rw[g5,h.run.ext,List.append_assoc],Nat.le_trans h.run.lc g6,by have:=hq.gl;show x'.got.length<=y.i+1;omega,?_⟩,?_,hi⟩
 ·have:=wV h.run.ex hd (jS kA 63 (n:=y.x.got.length+1) (by omega)) (Nat.le_refl _) g4 g1 h.run.sz
  rw[show 8+64+128*(y.i+1)=8+64+128*y.i+128 by omega]
  exact this
 ·show tS (mN _ y.i)=_
  rw[h.rn,est]
theorem my.done(h:my x0 y)(hd:y.dn=true):y.x.mm=Sm:=by
 have hR:y.R=.done y.rs:=by rcases h.run.ex.M2 with⟨_,h⟩|⟨h,_⟩;exact h;rw[hd] at h;cases h
 have h2:=h.rn
 rw[hR] at h2
 have h3:=(Ca (p:=Ct.eV ptT zV) (j:=y.i) (k:=8) (by rw[h2];rfl) h.i).1
 rw[V9,h2] at h3
 exact(congrArg Prod.snd h3).symm
theorem my.proper(h:my x0 y)(e0:x0.mm=zV):jW y.x.L y.x.cs y.x.gen:=by
 obtain⟨j,hrc⟩:=h.run.rc
 rw[e0] at hrc
 have w0:WR (H8 63) 63 zV [⟨3,false⟩] []:=.new
 have hst:WR (H8 63) 63 y.x.mm [⟨3,false⟩] [y.R]:=.start w0 (Kf (m:=63) (k:=kA) ⟨by decide,by decide⟩ (by decide) (List.mem_cons_self ..) (List.mem_cons_self ..) (λ _=>rfl)) hrc (mA h.run.ex)
 have hsz:=h.run.sz
 have hi:=h.i
 obtain⟨z1,z2,z3⟩:=hsz
 exact sX (m:=63) (B:=2000) (C:=0) (E:=0) (W:=⟨y.x,[⟨3,false⟩],none,0,[],none,0⟩) ⟨h.run.ex.ok,⟨by show y.x.L.length<=2000;omega,by show y.x.cs.length<=2000;omega,by show y.x.gen<=((2000:Nat):Int);omega⟩,(λ e he=>nomatch he),by show 0<1;decide,rfl,by show 1<=5;decide,Nat.le_refl _,hst.drop⟩
end
abbrev kL:Cl:=⟨7,⟨3,false⟩,0,0,0,0,0,63,aK,0,0,0,false⟩
theorem Fw:bQ o9 20 64:=by
 have h:o9=jT kL 12 1073741824:=(E6 (k:=kL) 12 1073741824 rfl).symm
 rw[h]
 exact Cm (by decide)
theorem Pg{D:List Nat}{A B:Fr}{a:AS}{b:Nat}{w:World}(ok:a.Ok)(hm:a.mm.Small)(hA:∀f∈aM a.L,f∈A)(hB:∀x∈B,x∈A)(hs:SF w D [(b,eX a)] A [] (fU a) w) :
  Calls Tryz.prog 55 #[.iface 42 (.pointer (some ⟨b,0,none⟩)),.agg ⟨[.int .i64 3,.bool false]⟩,.int .u64 63,.string aK] w λ e w'=>∃x:Nat×Cd×Fr×AS,e=.returned (.pointer (some ⟨x.1,0,none⟩))/\(mS b (Ct.eV o9 a.mm) a B x.2/\dG (Ct.eV o9 a.mm).1=true)/\SF w D [(x.1,tO b x.2.1 0),(b,eX x.2.2.2)] [] x.2.2.1 (fU x.2.2.2) w':=by
 obtain⟨n,hn,en⟩:∃n:Nat,n<=4294967296/\1073741824=n:=⟨1073741824,by decide,rfl⟩
 have ht:bQ (Gk tA 12 aK n) 20 64:=by rw[<- en];exact Fw
 have hd:∀bf,Mj b bf (jV aK 63) tA aK n:=λ bf=>Tp (by decide) (oE aK 63) n
 have h1:aK.size<=4611686018427387903:=by decide
 have h2:bQ (Gk tA (jV aK 63) aK n) 20 64:=by rw[hsA];exact ht
 have:=Nt (t:=tA) (key:=aK) (m:=63) (n:=n) (i:=20) (q:=64) (by decide) hd hn (by decide) h1 h2 ok hm hA hB hs
 rw[hsA] at this
 show Calls _ _ _ _ λ e w'=>∃x:Nat×Cd×Fr×AS,e=.returned (.pointer (some ⟨x.1,0,none⟩))/\(mS b (Ct.eV (Gk tA 12 aK 1073741824) a.mm) a B x.2/\dG (Ct.eV (Gk tA 12 aK 1073741824) a.mm).1=true)/\SF w D [(x.1,tO b x.2.1 0),(b,eX x.2.2.2)] [] x.2.2.1 (fU x.2.2.2) w'
 rw[en]
 exact this
theorem U0{T:Tr}(hT:bQ T 20 64){D:List Nat}{A B F:Fr}{a0 a:AS}{b bt:Nat}{c:Cd}{w:World}{M:Mm}{r:Rs}(h3:mN (Ct.eV T M) 3=(.done r,M))(hc:rM (Ct.eV T M) 3=3)(hl:M.nodes.length<=10/\M.cs.length<=10)(hp:mS b (Ct.eV T M) a0 B (c,F,a))(hA:∀f∈aM a.L,f∈A)(hB:∀x∈F++B,x∈A)(hs:SF w D [(bt,tO b c 0),(b,eX a)] A [] (fU a) w) :
  Calls Tryz.prog 30 #[.pointer (some ⟨bt,0,none⟩),.int .i64 9] w λ e w'=>∃y:Fr×AS,e=.returned (.int .i64 3)/\True/\SF w D [(bt,tO b (gQ r) 3),(b,eX y.2)] [] y.1 (fU y.2) w':=by
 obtain⟨e1,e2⟩:=aCe h3 hc
 obtain⟨s1,s2⟩:=pM M hT
 refine(fl (n:=0) (m:=20) (most:=9) hp (pU M hT) (pZ M hT 64) (by decide) ⟨by omega,by omega⟩ (by decide) hA hB hs).mono λ e w' ⟨y,h1,h2,hw⟩=>?_
 have h3:=h2.rp
 rw[e1] at h3
 obtain⟨_,h4⟩:=h3
 rw[e2,h4] at hw
 exact⟨(y.2.1,y.2.2),by rw[h1,e2];rfl,trivial,hw⟩
end

/- RootReads: the walk. -/
section
open Go Go.RowKit Go.Ct
abbrev exL(x:XS):List Ow:=[⟨x.pg,aG x.got,x.kg,37,1⟩,⟨x.pm,aG x.made,x.km,37,1⟩,⟨x.pl,aG x.cel,x.kl,27,1⟩,⟨x.pe,aG x.gns,x.ke,3,1⟩]
end

/- find: the sanity check, walked. -/
section
open Go Go.RowKit Go.Ct
theorem dg{S:List (Nat×Value)}{G:World->Prop}{d:Nat}{ty t t':TypeId}{pos:String}{af:Array Edge}{gd:Option (Nat×Bool)}{x y:Operand}(a:Rs)(hx:ev S x=.agg ⟨a.cells⟩)(hy:ev S y=.agg ⟨a.cells⟩)(ht:qD Tryz.prog t [0,1,0,2,0,0] [0,1]=true):aL Tryz.prog S G ⟨some d,.binOp .neq t x y t',ty,pos,af,gd⟩ (.bool false):=by
 have h:=q9 (P:=Tryz.prog) (G:=G) (d:=d) (ty:=ty) (pos:=pos) (af:=af) (gd:=gd) (t':=t') hx hy ht
 rw[decide_eq_true (rfl:a=a)] at h
 exact h
theorem oj{S:List (Nat×Value)}{G:World->Prop}{d:Nat}{ty t t':TypeId}{pos:String}{af:Array Edge}{gd:Option (Nat×Bool)}{x y:Operand}(a:Rs)(hx:ev S x=.agg ⟨a.cells⟩)(hy:ev S y=.agg ⟨a.cells⟩)(ht:qD Tryz.prog t [0,1,0,2,0,0] [0,1]=true):aL Tryz.prog S G ⟨some d,.binOp .eql t x y t',ty,pos,af,gd⟩ (.bool true):=by
 have h:=Mc (P:=Tryz.prog) (G:=G) (d:=d) (ty:=ty) (pos:=pos) (af:=af) (gd:=gd) (t':=t') hx hy ht
 rw[decide_eq_true (rfl:a=a)] at h
 exact h
abbrev awX(q:AX×AX×Option Addr×Nat):XS:=XS.new (L4 q.1 q.2.1) [0,3,4] 1 0 q.2.1.pn q.2.1.cn q.2.2.1 q.2.2.2
theorem aBM(q:AX×AX×Option Addr×Nat):Sz (awX q) 8:=⟨by show 4<=8;decide,by show 3<=8;decide,by show(1:Int)<=((8:Nat):Int);decide⟩
theorem W1{L:List aZ}{cs:List Int}{gen:Int}{pn pc:Option Addr}{cn cc:Nat}{w:World}(h:Bl w L cs pn pc)(hL:L.length<=274877906944)(hC:cs.length<=274877906944)(hcn:L.length<=cn)(hp:jW L cs gen)(hmo:Xg ⟨L.map aZ.c,cs,gen⟩) :
  Calls Tryz.prog 71 #[.agg ⟨[.slice pn L.length cn,.slice pc cs.length cc,.int .i64 gen]⟩] w λ e w'=>∃q:Nat×AS,e=.returned (.tuple #[.pointer (some ⟨q.1,0,none⟩),.int .i64 0])/\(q.2.mm=⟨L.map aZ.c,cs,gen⟩/\q.2.Ok)/\SF w [] [(q.1,eX q.2)] [] (aM q.2.L) (fU q.2) w' :=
 (Z0 h hL hC hcn hp).mono λ e w' ⟨x,e1,⟨h1,h2⟩,hw⟩=>by
  have hm:(AS.mm ⟨x.2.1,cs,gen,0,x.2.2.1.1,x.2.2.1.2,x.2.2.2.1,x.2.2.2.2⟩)=⟨L.map aZ.c,cs,gen⟩:=by
   show Mm.mk ((cB x.2.1).map aZ.c) cs gen=_
   rw[h1]
  exact⟨(x.1,⟨x.2.1,cs,gen,0,x.2.2.1.1,x.2.2.1.2,x.2.2.2.1,x.2.2.2.2⟩),e1,⟨hm,⟨h2,by rw[hm];exact hmo⟩⟩,hw⟩
set_option maxRecDepth 100000 in
set_option maxHeartbeats 2000000 in
theorem Xh(w:World):Calls Tryz.prog 56 #[] w λ e w'=>e=.returned (.bool true)/\St w [] [] w':=by
 refine enter Tryz.func56 Tryz.ntmps56 rfl rfl (SF.s0 w) ?_
 simp only[bY]
 refine cR ?_;refine J0 ?_;refine aC (Rx (Fc:=λ _=>[]) (hc:=λ w1 hw=>ef w1)) (λ x10 h10=>?_);refine J1 ?_;refine J2 ?_;refine aC (cM (hc:=λ w hs=>Pk hs)) (λ x12 h12=>?_);refine aI (λ x2=>?_);refine J5 ?_;refine Ew ?_;refine aB (aN (k:=3) rf cL dJ (by simp only[List.drop_zero,List.take_succ_cons,List.take_zero];exact rfl) rfl) rfl ?_;refine aC (Rx (V:=λ q:Nat×AS=>.tuple #[.pointer (some ⟨q.1,0,none⟩),.int .i64 0]) (Hc:=λ q=>[(q.1,eX q.2)]) (Fc:=λ q=>aM q.2.L) (Oc:=λ q=>fU q.2) (hc:=λ w1 hw=>W1 (L:=L4 x12.1 x12.2.1) (cs:=[0,3,4]) (hw.K0 (.inr (.inr (.inr ⟨_,.head _,rfl,rfl⟩))) (.inr (.inr (.inr ⟨_,.tail _ (.head _),rfl,rfl⟩))) (λ f hf=>.inl (Ha f hf)) (P9 x12.1 x12.2.1 0 none 0 none 0).fit) (by show 4<=_;decide) (by decide) (hw.qp .head) (W7 _ _) (P9 x12.1 x12.2.1 0 none 0 none 0).mo)) (λ x18 h18=>?_)
 have hmm:x18.2.mm=zV:=h18.1
 have hsm:x18.2.mm.Small:=by rw[hmm];exact⟨by decide,by decide⟩
 refine No ?_;refine J8 ?_;refine kM ?_;refine uI ?_
 refine bE (λ c22=>?_) (λ c22=>?_)
 ·try (contradiction)
 ·try (first|contradiction|(exfalso;omega))
  refine bB ?_;refine J2 ?_;refine aB (U9 rf (λ w=>xC _ w)) rfl ?_;refine bR ?_;refine aC (nh (V:=λ x:Nat×Cd×Fr×AS=>.pointer (some ⟨x.1,0,none⟩)) (hs:=[(x18.1,eX x18.2)]) (os:=fU x18.2) (hs':=λ x=>[(x18.1,eX x.2.2.2)]) (Hc:=λ x=>[(x.1,tO x18.1 x.2.1 0)]) (os':=λ x=>fU x.2.2.2) (Oc:=λ _=>[]) (Fc:=λ x=>x.2.2.1) (A0:=aM x18.2.L) (hA:=aX.of λ f hf=>.inr (.inr (.inl (by simp[hf])))) (hc:=λ w1 hw=>by have:=Ey (Pg (B:=[]) h18.2 hsm (λ f hf=>hf) (λ x hx=>nomatch hx) hw);rw[hmm] at this;exact this)) (λ x26 h26=>?_);refine iZ ?_;refine J2 ?_;refine mC ?_;refine aA ?_
  (refine aF ?_;refine aA ?_)
  ((refine aF ?_;refine aC (cM (V:=λ y:Fr×AS=>.int .i64 3) (hs:=[(x26.1,tO x18.1 x26.2.1 0),(x18.1,eX x26.2.2.2)]) (os:=fU x26.2.2.2) (hs':=λ y=>[(x26.1,tO x18.1 (gQ (dO false 0)) 3),(x18.1,eX y.2)]) (os':=λ y=>fU y.2) (Fc:=λ y=>y.1) (A0:=aM x26.2.2.2.L++(x26.2.2.1++[])) (hA:=aX.of λ f hf=>(List.mem_append.1 hf).elim (λ h=>(h26.1.2.2.fam f h).imp_right λ h=>.inr (.inl (h.elim (λ h=>List.mem_append_right _ (by simp[h])) λ h=>List.mem_append_left _ h))) λ h=>.inr (.inr (.inl (List.mem_append_left _ (by simpa using h))))) (hc:=λ w1 hw=>U0 Fw aBI.1 aBI.2 ⟨by decide,by decide⟩ h26.1 (λ f hf=>List.mem_append_left _ hf) (λ f hf=>List.mem_append_right _ hf) hw)) (λ x31 h31=>?_)));refine Ru ?_;refine aA ?_
  (refine aF ?_;refine aA ?_)
  ((refine aF ?_;refine aR (cV (hc:=λ w1 hw=>Bd (d:=true) rfl (hw.st.at cL))) (λ x36=>?_)));refine Q6 ?_;refine aA ?_
  (refine aF ?_;refine aA ?_)
  ((refine aF ?_;refine aR (cV (hc:=λ w1 hw=>sZ (r:=dO false 0) (d:=true) rfl (if_pos rfl) (hw.st.at cL))) (λ x41=>?_)));((refine aF ?_;refine bJ ?_));((refine aF ?_;refine aB (dg (dO false 0) rf rf (by kernel_rfl)) rfl ?_));refine cH ?_;refine aH ?_
  refine bE (λ c44=>?_) (λ c44=>?_)
  ·exact nv c44
  ·try (first|contradiction|(exfalso;omega))
   refine bB ?_;refine J2 ?_;refine bR ?_;refine bJ ?_;refine aC (nh (V:=λ q:Nat×XS×List aZ×Bool×Rs=>.pointer (some ⟨q.1,0,none⟩)) (hs:=[(x10.1,mO (L4 x12.1 x12.2.1) [0,3,4] 1 0 x12.2.1.pn x12.2.1.cn x12.2.2.1 x12.2.2.2)]) (os:=mW (L4 x12.1 x12.2.1) [0,3,4] x12.2.1.pn x12.2.1.cn x12.2.2.1 x12.2.2.2) (hs':=λ q=>[(x10.1,xM q.2.1)]) (Hc:=λ q=>[(q.1,xO kA x10.1 q.2.1 q.2.2.2.1 q.2.2.2.2)]) (os':=λ q=>H2 q.2.1) (Oc:=λ q=>exL q.2.1) (Fc:=λ q=>aM q.2.2.1) (A0:=aM (L4 x12.1 x12.2.1)) (hA:=aX.of λ f hf=>.inl (Ha f hf)) (hc:=λ w1 hw=>Bc (k:=kA) (m:=63) (L:=L4 x12.1 x12.2.1) (cs:=[0,3,4]) (gen:=1) (acc:=0) ⟨by show 4<=_;decide,by decide,by decide⟩ (.inr ⟨by decide,by decide⟩) (by decide) rfl (by decide) (bH _) (bH _) (bH _) (λ f hf=>hf) (P9 _ _ _ _ _ _ _) hw)) (λ x48 h48=>?_);refine iZ ?_;refine cI ?_
   obtain⟨R0,hR0⟩:=fh (x0:=awX x12) rfl (aBM x12) h48
   refine nA [49,50,51,52,53] (λ _:RY=>[]) (λ y=>my (awX x12) y) (λ y=>[(x48.1,xO kA x10.1 y.x y.dn y.rs),(x2,.cells ⟨[.int .i64 3,.bool false]⟩ 29 (0,0)),(x10.1,xM y.x)]) (λ y=>aM y.N) (λ y=>[⟨y.x.pg,aG y.x.got,y.x.kg,37,1⟩,⟨y.x.pm,aG y.x.made,y.x.km,37,1⟩,⟨y.x.pl,aG y.x.cel,y.x.kl,27,1⟩,⟨y.x.pe,aG y.x.gns,y.x.ke,3,1⟩,⟨y.x.pn,gN y.x.L,y.x.cn,47,14⟩,⟨y.x.pc,aG y.x.cs,y.x.cc,37,1⟩]) (λ y=>8-y.i) (⟨0,x48.2.1,x48.2.2.1,x48.2.2.2.1,x48.2.2.2.2,R0⟩) (hR0) (λ y f hx=>?_) (hw0:=λ w hw=>hw.back (hH:=by exact .cons_cons _ (.cons _ (.cons _ (List.Sublist.refl _)))) (hF:=by exact aY.iP λ f hf=>List.mem_append_left _ hf) (hO:=by exact .cons_cons _ (.cons_cons _ (.cons_cons _ (.cons_cons _ (.cons _ (.cons _ (List.Sublist.refl _))))))))
   dsimp only[gR,List.map,List.cons_append,List.nil_append]
   have hsx:=hx.run.sz
   obtain⟨z1,z2,z3⟩:=hsx
   have hi:=hx.i
   have hgl:=hx.run.gl
   refine kM ?_;refine aC (cM (hs:=xH kA x48.1 x10.1 y.x y.dn y.rs) (os:=xW y.x) (hc:=λ w hs=>Cg hs)) (λ x50 h50=>?_);refine oX ?_
   refine bE (λ c51=>?_) (λ c51=>?_)
   ·try (first|contradiction|(exfalso;omega))
    refine bB ?_;refine cI ?_;refine xZ ?_;refine aC (cM (hs:=xH kA x48.1 x10.1 y.x y.dn y.rs) (os:=xW y.x) (A0:=aM y.x.L) (hA:=aX.of λ f hf=>by rw[hx.run.ext,cZ] at hf;rcases List.mem_append.1 hf with hf|hf;exact .inl (Ha f hf);exact .inr (.inr (.inl hf))) (hc:=λ w hs=>Mv (N:=y.x.got.length+1) (n:=1073741824) (m:=63) (jS kA 63 (by omega)) (by omega) rfl ⟨by omega,by omega,by omega⟩ hx.run.ex (.inr ⟨by decide,by decide⟩) (Nat.le_refl _) (by decide) rfl (by decide) (bH _) (bH _) (bH _) (λ f hf=>hf) hs)) (λ x53 h53=>?_);refine aH ?_;refine eP ?_
    have hdf:y.dn=false:=by simp_all
    have hq:qB (T0 kA 63) y.R 1 (y.x.got.length+1) y.rs y.x x53.1 x53.2.1 x53.2.2.1 x53.2.2.2:=by rcases h53 with h|h;rw[hdf] at h;cases h.1;exact h.2
    obtain⟨R1,hR1⟩:=hx.step hdf hq
    have hlt:=hx.lt hdf
    refine iJ (⟨y.i+1,x53.1,y.N++x53.2.1,x53.2.2.1,x53.2.2.2,R1⟩) ?_ (hw1:=λ w hw=>hw.back (hF:=by rw[cZ];exact aY.iP λ f hf=>(List.mem_append.1 hf).elim (λ h=>List.mem_append_right _ h) (λ h=>List.mem_append_left _ h)))
    ·exact hR1
   ·try (first|contradiction|(exfalso;omega))
    refine bM rfl ?_;refine Ew ?_;refine aB (aN (k:=3) rf cL dJ (by simp only[List.drop_zero,List.take_succ_cons,List.take_zero];exact rfl) rfl) rfl ?_;refine aC (Rx (V:=λ q:Nat×AS=>.tuple #[.pointer (some ⟨q.1,0,none⟩),.int .i64 0]) (Hc:=λ q=>[(q.1,eX q.2)]) (Fc:=λ q=>aM q.2.L) (Oc:=λ q=>fU q.2) (hc:=λ w1 hw=>W1 (L:=y.x.L) (cs:=y.x.cs) (hw.K0 (.inr (.inr (.inr ⟨_,.tail _ (.tail _ (.tail _ (.tail _ (.head _)))),rfl,rfl⟩))) (.inr (.inr (.inr ⟨_,.tail _ (.tail _ (.tail _ (.tail _ (.tail _ (.head _))))),rfl,rfl⟩))) (λ f hf=>by rw[hx.run.ext,cZ] at hf;rcases List.mem_append.1 hf with hf|hf;exact .inl (Ha f hf);exact .inr (.inr (.inl hf))) hx.run.ex.ok.fit) (by omega) (by omega) (hw.qp (.tail (.tail (.tail (.tail .head))))) (hx.proper rfl) hx.run.ex.ok.mo)) (λ x59 h59=>?_)
    have hmm1:x59.2.mm=Sm:=h59.1.trans (hx.done (by simpa using c51))
    have hsm1:x59.2.mm.Small:=by rw[hmm1];exact⟨by decide,by decide⟩
    refine No ?_;refine J8 ?_;refine J2 ?_;refine aB (U9 rf (λ w=>xC _ w)) rfl ?_;refine bR ?_;refine aC (nh (V:=λ x:Nat×Cd×Fr×AS=>.pointer (some ⟨x.1,0,none⟩)) (hs:=[(x59.1,eX x59.2)]) (os:=fU x59.2) (hs':=λ x=>[(x59.1,eX x.2.2.2)]) (Hc:=λ x=>[(x.1,tO x59.1 x.2.1 0)]) (os':=λ x=>fU x.2.2.2) (Oc:=λ _=>[]) (Fc:=λ x=>x.2.2.1) (A0:=aM x59.2.L) (hA:=aX.of λ f hf=>.inr (.inr (.inl (by simp[hf])))) (hc:=λ w1 hw=>by have:=Ey (Pg (B:=[]) h59.2 hsm1 (λ f hf=>hf) (λ x hx=>nomatch hx) hw);rw[hmm1] at this;exact this)) (λ x65 h65=>?_);refine J1 ?_;refine J2 ?_;refine qA ?_;refine aA ?_
    (refine aF ?_;refine aA ?_)
    ((refine aF ?_;refine aC (cM (V:=λ y:Fr×AS=>.int .i64 3) (hs:=[(x65.1,tO x59.1 x65.2.1 0),(x59.1,eX x65.2.2.2)]) (os:=fU x65.2.2.2) (hs':=λ y=>[(x65.1,tO x59.1 (gQ (dO true 8)) 3),(x59.1,eX y.2)]) (os':=λ y=>fU y.2) (Fc:=λ y=>y.1) (A0:=aM x65.2.2.2.L++(x65.2.2.1++[])) (hA:=aX.of λ f hf=>(List.mem_append.1 hf).elim (λ h=>(h65.1.2.2.fam f h).imp_right λ h=>.inr (.inl (h.elim (λ h=>List.mem_append_right _ (by simp[h])) λ h=>List.mem_append_left _ h))) λ h=>.inr (.inr (.inl (List.mem_append_left _ (by simpa using h))))) (hc:=λ w1 hw=>U0 Fw aAE.1 aAE.2 ⟨by decide,by decide⟩ h65.1 (λ f hf=>List.mem_append_left _ hf) (λ f hf=>List.mem_append_right _ hf) hw)) (λ x70 h70=>?_)));refine zR ?_;refine aA ?_
    (refine aF ?_;refine aA ?_)
    ((refine aF ?_;refine aR (cV (hc:=λ w1 hw=>sZ (r:=dO true 8) (d:=true) rfl (if_pos rfl) (hw.st.at cL))) (λ x75=>?_)));((refine aF ?_;refine bJ ?_));((refine aF ?_;refine aB (oj (dO true 8) rf rf (by kernel_rfl)) rfl ?_));refine cH ?_;refine J1 ?_
    refine aT Tryz.results56 (λ w hw=>?_)
    exact⟨rfl,hw.done⟩
end

/- FindExact: the walk. -/
section
open Go Go.RowKit Go.Ct
theorem T9{k:Cl}(m:Nat)(e:k.kind=7):T0 k m=Gk k.t (jV k.key m) k.key 1073741824:=E6 _ _ e
theorem U4{k:Cl}{m:Nat}{D:List Nat}{A B:Fr}{a:AS}{b:Nat}{w:World}(e:k.kind=7)(ht:k.t.root<=9223372036854775807)(hm0:m<18446744073709551616)(hk:k.key.size<=4611686018427387903)(ok:a.Ok)(hm:a.mm.Small)(hA:∀f∈aM a.L,f∈A)(hB:∀x∈B,x∈A)(hs:SF w D [(b,eX a)] A [] (fU a) w) :
  Calls Tryz.prog 55 #[.iface 42 (.pointer (some ⟨b,0,none⟩)),.agg ⟨[.int .i64 k.t.root,.bool k.t.ro]⟩,.int .u64 (m:Int),.string k.key] w λ e w'=>∃x:Nat×Cd×Fr×AS,e=.returned (.pointer (some ⟨x.1,0,none⟩))/\(mS b (Ct.eV (T0 k m) a.mm) a B x.2/\dG (Ct.eV (T0 k m) a.mm).1=true)/\SF w D [(x.1,tO b x.2.1 0),(b,eX x.2.2.2)] [] x.2.2.1 (fU x.2.2.2) w':=by
 have hT:=jS k m (n:=0) (by decide)
 rw[T9 m e] at hT ⊢
 have hn:1073741824<=4294967296:=by decide
 generalize 1073741824=n at hT hn ⊢
 exact Nt ht (λ bf=>Tp ht (oE k.key m) n) hn hm0 hk hT ok hm hA hB hs
abbrev qK(q:Br)(m:Int)(y:ByteArray):Cl:=⟨7,q.t,0,0,0,0,0,m,y,q.val,q.exp,q.Io,q.only⟩
theorem vb(q:Br)(m:Int)(y:ByteArray):Yt (qK q m y):=.inr ⟨show(7:Int)<=7 by decide,show(7:Int)<=12 by decide⟩
theorem Ds{k:ByteArray}(h:k∈lO):k.size<=4611686018427387903:=by
 simp only[lO,List.mem_cons,List.not_mem_nil,or_false] at h
 rcases h with rfl|rfl|rfl|rfl|rfl|rfl|rfl|rfl<;>decide
end

end Go.Proofs.YtbajmaoegmbfgaaGreat
