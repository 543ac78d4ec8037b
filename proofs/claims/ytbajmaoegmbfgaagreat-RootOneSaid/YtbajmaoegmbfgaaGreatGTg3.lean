/- Merged. -/
import Derived.Test.YtbajmaoegmbfgaaGreatGLr3
import Derived.Test.YtbajmaoegmbfgaaGreatGRt3
import Derived.Test.YtbajmaoegmbfgaaGreatGQw1
set_option linter.unusedSimpArgs false
set_option linter.unusedVariables false
namespace Go.Proofs.YtbajmaoegmbfgaaGreat
open Go Go.RowKit Go.Ct
section
abbrev rcT(t:dO)(o e n:Int):Tr:=jK t o e n λ ok=>.done (eN 0 ok)
abbrev vc(t:dO):Tr:=kF t λ r=>.done (eN r false)
section
variable{ba k B:Nat}{t:dO}{a:AS}{G A:Fr}{D:List Nat}{w:World}{bA exp nw:Int}
theorem Kh(t:dO)(o e n:Int){k:Nat}(h:k<1073741824):bS (rcT t o e n) k 64:=qY (kG 4 t o e n) 0 h
theorem Jb(t:dO){k:Nat}(h:k<1073741824):bS (vc t) k 64:=qY (kG 3 t 0 0 0) 0 h
theorem O4(ht:t.root<=9223372036854775807)(ho:bA<=a.mm.nodes.length)(he:exp<=a.mm.nodes.length+1)(hnn:nw<=a.mm.nodes.length)(ha:AK a G B)(hB:B<=90000000000)(hA:∀f∈aL a.L,f∈A)(hs:SF w D [(ba,dL a)] A [] (dZ a) w) :
  Calls Tryz.prog 48 #[.iface 42 (.pointer (some ⟨ba,0,none⟩)),.agg ⟨[.int .i64 t.root,.bool t.ro]⟩,.int .i64 bA,.int .i64 exp,.int .i64 nw] w λ e w'=>∃x:Nat×TY,e=.returned (.pointer (some ⟨x.1,0,none⟩))/\S5 ba (rcT t bA exp nw) a G 1000 (B+64) x.2/\SF w D ([(ba,dL x.2.a)]++[(x.1,tO ba x.2.c 0)]) [] x.2.F (dZ x.2.a++[]) w' :=
 (L8 (Kg (t:=t) (bA:=bA) (exp:=exp) (nw:=nw) (B:=[]) (n:=1000) (m:=64) ht ho he hnn (Kh _ _ _ _ (by decide)) ha.ok (ha.small (by omega)) hA (λ x hx=>nomatch hx) hs)).mono λ e w' ⟨x,e1,h,hw⟩=>⟨(x.1,⟨x.2.1,x.2.2.1,x.2.2.2,0⟩),e1,Uk (Kh _ _ _ _ (by decide)) ha h,hw⟩
theorem O5(ht:t.root<=9223372036854775807)(ha:AK a G B)(hB:B<=90000000000)(hA:∀f∈aL a.L,f∈A)(hs:SF w D [(ba,dL a)] A [] (dZ a) w) :
  Calls Tryz.prog 52 #[.iface 42 (.pointer (some ⟨ba,0,none⟩)),.agg ⟨[.int .i64 t.root,.bool t.ro]⟩] w λ e w'=>∃x:Nat×TY,e=.returned (.pointer (some ⟨x.1,0,none⟩))/\S5 ba (vc t) a G 1000 (B+64) x.2/\SF w D ([(ba,dL x.2.a)]++[(x.1,tO ba x.2.c 0)]) [] x.2.F (dZ x.2.a++[]) w' :=
 (L8 (Y3 (t:=t) (B:=[]) (n:=1000) (m:=64) ht (Jb _ (by decide)) ha.ok (ha.small (by omega)) hA (λ x hx=>nomatch hx) hs)).mono λ e w' ⟨x,e1,h,hw⟩=>⟨(x.1,⟨x.2.1,x.2.2.1,x.2.2.2,0⟩),e1,Uk (Jb _ (by decide)) ha h,hw⟩
abbrev Mf(g:Int):Nd:={Nd.zero with kind:=2,gen:=g}
theorem ve(g:Int)(n c:Nat):lX n c {(Mf g).c [] [] with main:=0,prev:=0,status:=0}:=⟨bH _,bH _,bH _,(λ r hr=>nomatch hr),bH _,bH _,bH _,⟨0,rfl,by decide⟩,⟨0,rfl,by decide⟩⟩
theorem Jn(h0:0<=a.gen)(h1:a.gen<=1000000000000)(hs:SF w D [(ba,dL a)] A [] (dZ a) w):Calls Tryz.prog 47 #[.pointer (some ⟨ba,0,none⟩)] w λ e w'=>∃q:Unit,e=.returned (.int .i64 (a.gen+1))/\True/\SF w D [(ba,dL {a with gen:=a.gen+1})] [] [] (dZ a) w':=by
 have:=Xm hs
 rw[show up a.gen=a.gen+1 from wrap_i64 (by omega) (by omega)] at this
 exact this
theorem AK.gen(h:AK a G B):AK {a with gen:=a.gen+1} G B:=⟨⟨h.ok.fit,⟨h.ok.mo.nd,h.ok.mo.cs,h.ok.mo.two⟩⟩,h.s1,h.s2,h.fam⟩
end
end
section
section
variable{H:ByteArray->Nat}{M s:Mm}{ts:List dO}{σ:Kw}{t:dO}{i m n:Int}{u:Nv}
theorem QS.main(q:QS H M ts σ)(hi:(bD M.nodes i).kind=2):1<=(bD M.nodes i).main/\(bD M.nodes i).main<=M.cs.length/\bZ (bD M.nodes (aY M.cs (bD M.nodes i).main))/\aY M.cs (bD M.nodes (aY M.cs (bD M.nodes i).main)).prev=0:=by
 have e:=q.mm
 subst e
 have h1:=q.inv.dR hi
 exact⟨h1.1,h1.2.1,Rn q.inv hi,q.st i hi⟩
theorem QS.root(q:QS H M ts σ)(ht:t∈ts):1<=t.root/\t.root<=M.cs.length/\(bD M.nodes (aY M.cs t.root)).kind=2:=by
 have e:=q.mm
 subst e
 have hT:=q.ts t ht
 refine⟨hT.1,hT.2.1,?_⟩
 cases hro:t.ro with
 | true=>exact(hT.roI q.inv hro).1
 | false=>exact q.rt _ hT.1 hT.2.1 (hT.rw hro)
theorem QS.z5(q:QS H M ts σ)(ht:t∈ts)(hi:(bD M.nodes i).kind=2):t.root≠(bD M.nodes i).main:=λ e=>by
 have em:=q.mm
 subst em
 have hT:=q.ts t ht
 have h1:=(q.inv.dR hi).2.2
 have h2:=hT.2.2
 rw[e,show σ.ct (bD σ.mm.nodes i).main=.main i from h1] at h2
 unfold ctR at h2
 split at h2<;>cases h2
theorem QS.body(q:QS H M ts σ)(hb:oK M.nodes M.cs i=some m):(bD M.nodes i).kind=2/\aY M.cs (bD M.nodes i).main=m:=by
 have hi:=(Xs hb).1
 refine⟨hi,?_⟩
 have hp:nZ M.nodes M.cs i=0:=(q.main hi).2.2.2
 unfold oK at hb
 split at hb
 ·exact Option.some.inj hb
 ·cases hb
theorem QS.oL(q:QS H M ts σ)(ht:t∈ts){r:Int}(h:oL M.nodes M.cs t.root=some r):aY M.cs t.root=r:=by
 have h2:=(q.root ht).2.2
 have e:uE M.nodes M.cs t.root=aY M.cs t.root:=by
  unfold uE
  rw[if_neg (by rw[h2];decide)]
 unfold Go.Ct.oL at h
 rw[e,if_pos h2] at h
 exact Option.some.inj h
end
end
section
def kS(M:Mm):Mm:=⟨M.nodes,M.cs,M.gen+1⟩
structure Ix(M:Mm)(c r m:Int):Prop where
 c1:1<=c
 c2:c<=M.cs.length
 cr:aY M.cs c=r
 kr:(bD M.nodes r).kind=2
 m1:1<=(bD M.nodes r).main
 m2:(bD M.nodes r).main<=M.cs.length
 mv:aY M.cs (bD M.nodes r).main=m
 mc:(bD M.nodes r).main≠c
 km:bZ (bD M.nodes m)
 p1:1<=(bD M.nodes m).prev
 p2:(bD M.nodes m).prev<=M.cs.length
 pv:aY M.cs (bD M.nodes m).prev=0
section
variable{H:ByteArray->Nat}{M s:Mm}{ts:List dO}{σ:Kw}{t:dO}{c r m e d n x:Int}{v:Nv}
theorem Ix.pc(h:Ix M c r m):(bD M.nodes m).prev≠c:=λ e=>by
 have h1:=h.pv
 rw[e,h.cr] at h1
 have:=eS (N:=M.nodes) (i:=r) (by rw[h.kr];decide)
 omega
theorem Ix.rin(h:Ix M c r m):1<=r/\r<=M.nodes.length:=eS (N:=M.nodes) (i:=r) (by rw[h.kr];decide)
theorem Ix.min(h:Ix M c r m):1<=m/\m<=M.nodes.length:=gT h.km
theorem zp(q:QS H M ts σ)(ht:t∈ts)(hr:aY M.cs t.root=r)(hm:aY M.cs (bD M.nodes r).main=m):Ix M t.root r m:=by
 obtain⟨r1,r2,r3⟩:=q.root ht
 rw[hr] at r3
 obtain⟨c1,c2,hk,hp⟩:=q.main r3
 have hne:=q.z5 ht r3
 rw[hm] at hk hp
 have em:=q.mm
 subst em
 have h1:=q.inv.jE hk
 exact⟨r1,r2,hr,r3,c1,c2,hm,Ne.symm hne,hk,h1.1,h1.2.1,hp⟩
theorem Ix.gen(h:Ix M c r m):Ix (kS M) c r m:=⟨h.c1,h.c2,h.cr,h.kr,h.m1,h.m2,h.mv,h.mc,h.km,h.p1,h.p2,h.pv⟩
theorem sH(hk:v.kind=2∨v.kind=3∨v.kind=5∨v.kind=6∨v.kind=8):(M.push v x).cs=M.cs++[x]:=if_pos hk
theorem Ix.push(h:Ix M c r m)(hk:v.kind=2∨v.kind=3∨v.kind=5∨v.kind=6∨v.kind=8):Ix (M.push v x) c r m:=by
 have e1:(M.push v x).nodes=M.nodes++[cX v M.cs.length]:=rfl
 have e2:=sH (M:=M) (x:=x) hk
 have nr:bD (M.push v x).nodes r=bD M.nodes r:=by rw[e1];exact sJ h.rin.2
 have nm:bD (M.push v x).nodes m=bD M.nodes m:=by rw[e1];exact sJ h.min.2
 have hl:(M.push v x).cs.length=M.cs.length+1:=by rw[e2];simp
 have ce:∀y:Int,y<=M.cs.length->aY (M.push v x).cs y=aY M.cs y:=λ y hy=>by rw[e2];exact nJ hy
 have:=h.c2
 have:=h.m2
 have:=h.p2
 exact⟨h.c1,by omega,by rw[ce _ h.c2];exact h.cr,by rw[nr];exact h.kr,by rw[nr];exact h.m1,by rw[nr];omega,by rw[nr,ce _ h.m2];exact h.mv,by rw[nr];exact h.mc,by rw[nm];exact h.km,by rw[nm];exact h.p1,by rw[nm];omega,by rw[nm,ce _ h.p2];exact h.pv⟩
theorem fQ{M':Mm}{y:Int}(e:M'=M.push v x)(hy:y<=M.nodes.length):bD M'.nodes y=bD M.nodes y:=by rw[e];exact sJ hy
theorem zO{M':Mm}(e:M'=M.push v x):bD M'.nodes ((M.nodes.length+1:Nat):Int)=cX v M.cs.length:=by rw[e];exact Ym _ _
theorem kC(M:Mm)(v:Nv)(x:Int):(M.push v x).nodes.length=M.nodes.length+1:=by show(M.nodes++[_]).length=_;simp
def mm4(M:Mm)(g1 g2 r m n0 n1:Int):Mm:=((((kS M).push (fH g1) m |> kS).push (fH g2) m).push (lR r m n0) 0).push (lR r m n1) 0
def two(a b:Int):Bool->Int:=λ x=>if x=true then b else a
theorem Z3{g1 g2:Int}(h:Ix M c r m) :
  V6 (mm4 M g1 g2 r m ((M.nodes.length+1:Nat):Int) ((M.nodes.length+1+1:Nat):Int)).nodes (M.cs.length+4) c r m (two ((M.nodes.length+1+1+1:Nat):Int) ((M.nodes.length+1+1+1+1:Nat):Int)) (two ((M.nodes.length+1:Nat):Int) ((M.nodes.length+1+1:Nat):Int)) /\
  Xz (mm4 M g1 g2 r m ((M.nodes.length+1:Nat):Int) ((M.nodes.length+1+1:Nat):Int)).nodes (M.cs.length+4) c r m (two ((M.nodes.length+1+1+1:Nat):Int) ((M.nodes.length+1+1+1+1:Nat):Int)) (two ((M.nodes.length+1:Nat):Int) ((M.nodes.length+1+1:Nat):Int)) .idle (mm4 M g1 g2 r m ((M.nodes.length+1:Nat):Int) ((M.nodes.length+1+1:Nat):Int)):=by
 obtain⟨n0,hn0⟩:∃n0:Int,n0=((M.nodes.length+1:Nat):Int):=⟨_,rfl⟩
 obtain⟨n1,hn1⟩:∃n1:Int,n1=((M.nodes.length+1+1:Nat):Int):=⟨_,rfl⟩
 obtain⟨M1,hM1⟩:∃M1,M1=(kS M).push (fH g1) m:=⟨_,rfl⟩
 obtain⟨M2,hM2⟩:∃M2,M2=(kS M1).push (fH g2) m:=⟨_,rfl⟩
 obtain⟨M3,hM3⟩:∃M3,M3=M2.push (lR r m n0) 0:=⟨_,rfl⟩
 obtain⟨M4,hM4⟩:∃M4,M4=M3.push (lR r m n1) 0:=⟨_,rfl⟩
 have e4:mm4 M g1 g2 r m n0 n1=M4:=by rw[hM4,hM3,hM2,hM1];rfl
 rw[<- hn0,<- hn1,e4]
 have l1:M1.nodes.length=M.nodes.length+1:=by rw[hM1];exact kC _ _ _
 have l2:M2.nodes.length=M.nodes.length+1+1:=by rw[hM2,kC];show M1.nodes.length+1=_;rw[l1]
 have l3:M3.nodes.length=M.nodes.length+1+1+1:=by rw[hM3,kC,l2]
 have l4:M4.nodes.length=M.nodes.length+1+1+1+1:=by rw[hM4,kC,l3]
 have k2:∀g,(fH g).kind=2:=λ _=>rfl
 have k8:∀n,(lR r m n).kind=8:=λ _=>rfl
 have c1:M1.cs=M.cs++[m]:=by rw[hM1];exact sH (.inl (k2 _))
 have c2:M2.cs=M1.cs++[m]:=by rw[hM2];exact sH (.inl (k2 _))
 have c3:M3.cs=M2.cs++[0]:=by rw[hM3];exact sH (.inr (.inr (.inr (.inr (k8 _)))))
 have c4:M4.cs=M3.cs++[0]:=by rw[hM4];exact sH (.inr (.inr (.inr (.inr (k8 _)))))
 have d1:M1.cs.length=M.cs.length+1:=by rw[c1];simp
 have d2:M2.cs.length=M.cs.length+2:=by rw[c2,List.length_append,d1];rfl
 have d3:M3.cs.length=M.cs.length+3:=by rw[c3,List.length_append,d2];rfl
 have d4:M4.cs.length=M.cs.length+4:=by rw[c4,List.length_append,d3];rfl
 have h1:Ix M1 c r m:=by rw[hM1];exact h.gen.push (.inl (k2 _))
 have h2:Ix M2 c r m:=by rw[hM2];exact h1.gen.push (.inl (k2 _))
 have h3:Ix M3 c r m:=by rw[hM3];exact h2.push (.inr (.inr (.inr (.inr (k8 _)))))
 have h4:Ix M4 c r m:=by rw[hM4];exact h3.push (.inr (.inr (.inr (.inr (k8 _)))))
 have a0:bD M4.nodes n0=cX (fH g1) M.cs.length:=by
  rw[fQ hM4 (by omega),fQ hM3 (by omega),fQ hM2 (by show n0<=(M1.nodes.length:Int);omega)]
  show bD M1.nodes n0=_
  rw[hn0]
  exact zO (M:=kS M) hM1
 have a1:bD M4.nodes n1=cX (fH g2) M1.cs.length:=by
  rw[fQ hM4 (by omega),fQ hM3 (by omega),hn1,<- l1]
  exact zO (M:=kS M1) hM2
 have b0:bD M4.nodes ((M.nodes.length+1+1+1:Nat):Int)=cX (lR r m n0) M2.cs.length:=by
  rw[fQ hM4 (by omega),<- l2]
  exact zO hM3
 have b1:bD M4.nodes ((M.nodes.length+1+1+1+1:Nat):Int)=cX (lR r m n1) M3.cs.length:=by
  rw[<- l3]
  exact zO hM4
 have s0:(cX (lR r m n0) M2.cs.length).status=((M2.cs.length+1:Nat):Int):=rfl
 have s1:(cX (lR r m n1) M3.cs.length).status=((M3.cs.length+1:Nat):Int):=rfl
 have hc2:=h.c2
 have hm2:=h.m2
 have hp2:=h.p2
 have nr:(bD M4.nodes r).main=(bD M.nodes r).main:=by
  rw[fQ hM4 h3.rin.2,fQ hM3 h2.rin.2,fQ hM2 h1.gen.rin.2]
  show(bD M1.nodes r).main=_
  rw[fQ hM1 h.gen.rin.2]
  rfl
 have nm:(bD M4.nodes m).prev=(bD M.nodes m).prev:=by
  rw[fQ hM4 h3.min.2,fQ hM3 h2.min.2,fQ hM2 h1.gen.min.2]
  show(bD M1.nodes m).prev=_
  rw[fQ hM1 h.gen.min.2]
  rfl
 have hrn:=h.rin
 refine⟨⟨h4.kr,λ b=>?_,λ b=>?_,λ b=>?_,λ b=>?_,λ b=>?_,h4.c1,by omega,λ b=>?_,λ b=>?_,λ b=>?_,λ b b' hb=>?_,h4.mc,λ b=>?_,h4.pc,λ b=>?_,λ b=>?_⟩,⟨rfl,d4,h4.cr,λ b=>?_,h4.mv,h4.pv⟩⟩
 ·cases b<;>simp only[two,if_true,Bool.false_eq_true,if_false]<;>first|(rw[b0];rfl)|(rw[b1];rfl)
 ·cases b<;>simp only[two,if_true,Bool.false_eq_true,if_false]<;>first|(rw[a0];rfl)|(rw[a1];rfl)
 ·cases b<;>simp only[two,if_true,Bool.false_eq_true,if_false]<;>first|(rw[b0];rfl)|(rw[b1];rfl)
 ·cases b<;>simp only[two,if_true,Bool.false_eq_true,if_false]<;>first|(rw[b0];rfl)|(rw[b1];rfl)
 ·cases b<;>simp only[two,if_true,Bool.false_eq_true,if_false]<;>first|(rw[b0];rfl)|(rw[b1];rfl)
 ·cases b<;>simp only[two,if_true,Bool.false_eq_true,if_false]<;>first|(rw[b0,s0];omega)|(rw[b1,s1];omega)
 ·cases b<;>simp only[two,if_true,Bool.false_eq_true,if_false]<;>first|(rw[b0,s0];omega)|(rw[b1,s1];omega)
 ·cases b<;>simp only[two,if_true,Bool.false_eq_true,if_false]<;>first|(rw[b0,s0];omega)|(rw[b1,s1];omega)
 ·cases b<;>cases b'<;>first|exact absurd rfl hb|(simp only[two,if_true,Bool.false_eq_true,if_false];rw[b0,b1,s0,s1];omega)
 ·rw[nr];cases b<;>simp only[two,if_true,Bool.false_eq_true,if_false]<;>first|(rw[b0,s0];omega)|(rw[b1,s1];omega)
 ·rw[nm];cases b<;>simp only[two,if_true,Bool.false_eq_true,if_false]<;>first|(rw[b0,s0];omega)|(rw[b1,s1];omega)
 ·cases b<;>simp only[two,if_true,Bool.false_eq_true,if_false]<;>omega
 ·cases b
  ·simp only[two,Bool.false_eq_true,if_false]
   rw[b0,s0,c4,nJ (by omega),c3]
   exact Hp _ _
  ·simp only[two,if_true]
   rw[b1,s1,c4]
   exact Hp _ _
end
end
section
structure RZ3 where
 i:Nat
 pos:Nat
 t0:Tr
 t1:Tr
 tz:Tr
 b0:Nat
 b1:Nat
 bz:Nat
 c0:Cd
 c1:Cd
 cz:Cd
 m0:Nat
 m1:Nat
 mz:Nat
 a:AS
 G:Fr
 q:RS
structure Wm(ba:Nat)(N:List Nv)(L:Nat)(c r m:Int)(d n:Bool->Int)(al:Prop)(G0:Fr)(B:Nat)(y:RZ3):Prop where
 hi:y.i<=40
 ro:Mb N L c r m d n y.t0 y.t1 y.tz y.a.mm y.q
 k0:TK ba y.t0 y.c0 y.a y.G y.b0
 k1:TK ba y.t1 y.c1 y.a y.G y.b1
 kz:TK ba y.tz y.cz y.a y.G y.bz
 l0:100<=y.b0+y.i
 l1:100<=y.b1+y.i
 lz:100<=y.bz+y.i
 ak:AK y.a y.G (B+64*y.i)
 m0:y.m0<=y.i
 m1:y.m1<=y.i
 mz:y.mz<=y.i
 sub:∀f∈G0,f∈y.G
 al:al->y.q=.idle
section
variable{ba B L:Nat}{N:List Nv}{c r m:Int}{d n:Bool->Int}{al:Prop}{t:dO}{G0:Fr}{y:RZ3}{u:TY}
theorem Wm.aCg(hy:Wm ba N L c r m d n al G0 B y)(hal:¬al)(hi:y.i<40)(hr:nj ba (vF (y.t0,y.a.mm)) y.a y.G (y.b0-1) (B+64*y.i+64) (y.m0+1) u)(p:Nat) :
  ∃q,Wm ba N L c r m d n al G0 B ⟨y.i+1,p,(vF (y.t0,y.a.mm)).1,y.t1,y.tz,y.b0-1,y.b1,y.bz,u.c,y.c1,y.cz,u.n,y.m1,y.mz,u.a,u.F++y.G,q⟩:=by
 obtain⟨q,h,_,_⟩:=hy.ro.aA5 1
 refine⟨q,hi,?_,hr.tk,hy.k1.to hr.le λ x hx=>List.mem_append_right _ hx,hy.kz.to hr.le λ x hx=>List.mem_append_right _ hx,by have:=hy.l0;show 100<=y.b0-1+(y.i+1);omega,by have:=hy.l1;show 100<=y.b1+(y.i+1);omega,by have:=hy.lz;show 100<=y.bz+(y.i+1);omega,hr.ak.mono (by show B+64*y.i+64<=B+64*(y.i+1);omega),by have:=hy.m0;have:=hr.n;show u.n<=y.i+1;omega,by have:=hy.m1;show y.m1<=y.i+1;omega,by have:=hy.mz;show y.mz<=y.i+1;omega,λ f hf=>List.mem_append_right _ (hy.sub f hf),λ h=>absurd h hal⟩
 show Mb N L c r m d n _ _ _ u.a.mm q
 rw[hr.mm]
 exact h
theorem Wm.aBm(hy:Wm ba N L c r m d n al G0 B y)(hal:¬al)(hi:y.i<40)(hr:nj ba (vF (y.t1,y.a.mm)) y.a y.G (y.b1-1) (B+64*y.i+64) (y.m1+1) u)(p:Nat) :
  ∃q,Wm ba N L c r m d n al G0 B ⟨y.i+1,p,y.t0,(vF (y.t1,y.a.mm)).1,y.tz,y.b0,y.b1-1,y.bz,y.c0,u.c,y.cz,y.m0,u.n,y.mz,u.a,u.F++y.G,q⟩:=by
 obtain⟨q,h,_,_⟩:=hy.ro.aBT 1
 refine⟨q,hi,?_,hy.k0.to hr.le λ x hx=>List.mem_append_right _ hx,hr.tk,hy.kz.to hr.le λ x hx=>List.mem_append_right _ hx,by have:=hy.l0;show 100<=y.b0+(y.i+1);omega,by have:=hy.l1;show 100<=y.b1-1+(y.i+1);omega,by have:=hy.lz;show 100<=y.bz+(y.i+1);omega,hr.ak.mono (by show B+64*y.i+64<=B+64*(y.i+1);omega),by have:=hy.m0;show y.m0<=y.i+1;omega,by have:=hy.m1;have:=hr.n;show u.n<=y.i+1;omega,by have:=hy.mz;show y.mz<=y.i+1;omega,λ f hf=>List.mem_append_right _ (hy.sub f hf),λ h=>absurd h hal⟩
 show Mb N L c r m d n _ _ _ u.a.mm q
 rw[hr.mm]
 exact h
theorem Wm.aB8(hy:Wm ba N L c r m d n al G0 B y)(hal:¬al)(hi:y.i<40)(hr:nj ba (vF (y.tz,y.a.mm)) y.a y.G (y.bz-1) (B+64*y.i+64) (y.mz+1) u)(p:Nat) :
  ∃q,Wm ba N L c r m d n al G0 B ⟨y.i+1,p,y.t0,y.t1,(vF (y.tz,y.a.mm)).1,y.b0,y.b1,y.bz-1,y.c0,y.c1,u.c,y.m0,y.m1,u.n,u.a,u.F++y.G,q⟩:=by
 obtain⟨q,h,_,_⟩:=hy.ro.aA1 1
 refine⟨q,hi,?_,hy.k0.to hr.le λ x hx=>List.mem_append_right _ hx,hy.k1.to hr.le λ x hx=>List.mem_append_right _ hx,hr.tk,by have:=hy.l0;show 100<=y.b0+(y.i+1);omega,by have:=hy.l1;show 100<=y.b1+(y.i+1);omega,by have:=hy.lz;show 100<=y.bz-1+(y.i+1);omega,hr.ak.mono (by show B+64*y.i+64<=B+64*(y.i+1);omega),by have:=hy.m0;show y.m0<=y.i+1;omega,by have:=hy.m1;show y.m1<=y.i+1;omega,by have:=hy.mz;have:=hr.n;show u.n<=y.i+1;omega,λ f hf=>List.mem_append_right _ (hy.sub f hf),λ h=>absurd h hal⟩
 show Mb N L c r m d n _ _ _ u.a.mm q
 rw[hr.mm]
 exact h
structure RzE(ba B L:Nat)(N:List Nv)(c r m:Int)(d n:Bool->Int)(r0 r1 rz:TY)(G:Fr)(b:Bool):Prop where
 k0:TK ba (.done (eN 0 (!b))) r0.c rz.a G 0
 k1:TK ba (.done (eN 0 b)) r1.c rz.a G 0
 kz:∃v,TK ba (.done v) rz.c rz.a G 0
 ak:AK rz.a G B
 i:Xz N L c r m d n (.new b) rz.a.mm
theorem Wm.fin{j:Nat}(hj:7<=j)(hy:Wm ba N L c r m d n al G0 B y){r0 r1 rz:TY}{k0 k1 kz B0 B1 Bz q0 q1 qz:Nat}
  (h0:nj ba (kP (y.t0,y.a.mm) j) y.a y.G k0 B0 q0 r0) (h1:nj ba (kP (y.t1,r0.a.mm) j) r0.a (r0.F++y.G) k1 B1 q1 r1) (hz:nj ba (kP (y.tz,r1.a.mm) j) r1.a (r1.F++(r0.F++y.G)) kz Bz qz rz) :
  ∃b,RzE ba Bz L N c r m d n r0 r1 rz (rz.F++(r1.F++(r0.F++y.G))) b/\(al->b=false):=by
 obtain⟨b,he,hb⟩:=hy.ro.end hj
 rw[<- h0.mm,<- h1.mm,<- hz.mm] at he
 refine⟨b,⟨?_,?_,?_,hz.ak,he.i⟩,λ h=>hb (hy.al h)⟩
 ·exact(h0.tk.to (h1.le.trans hz.le) λ x hx=>List.mem_append_right _ (List.mem_append_right _ hx)).zero he.x
 ·exact(h1.tk.to hz.le λ x hx=>List.mem_append_right _ hx).zero he.y
 ·obtain⟨v,hv⟩:=he.z
  exact⟨v,hz.tk.zero hv⟩
theorem RzE.read{j:Nat}(hj:1<=j)(hN:V6 N L c r m d n)(ht:t.root=c){r0 r1 rz:TY}{G:Fr}{b:Bool}(h:RzE ba B L N c r m d n r0 r1 rz G b){z z2:TY}{k k' B0 B1 q':Nat}(hz:S5 ba (vc t) rz.a G k B0 z)(hr:nj ba (kP ((Ct.gW (vc t) rz.a.mm).1,z.a.mm) j) z.a (z.F++G) k' B1 q' z2) :
  TK ba (.done (eN (n b) false)) z2.c z2.a (z2.F++(z.F++G)) 0/\rz.a.mm.Le z2.a.mm:=by
 have e1:=gg hN ht h.i j hj
 refine⟨hr.tk.zero ?_,hz.le.trans hr.le⟩
 rw[hz.mm]
 exact congrArg Prod.fst e1
theorem cx{M:Mm}{g1 g2:Int}{a2:AS}{G1:Fr}{p m:Int}{k0 k1 kz B0 B1 Bz:Nat}{y0 y1 yz:TY}(hB:Ix M t.root r m)(h2:a2.mm=((kS M).push (fH g1) m |> kS).push (fH g2) m)
  (h0:S5 ba (rcT t r m ((M.nodes.length+1:Nat):Int)) a2 G1 k0 B0 y0) (h1:S5 ba (rcT t r m ((M.nodes.length+1+1:Nat):Int)) y0.a (y0.F++G1) k1 B1 y1) (hz:S5 ba (vc t) y1.a (y1.F++(y0.F++G1)) kz Bz yz)
  (l0:100<=k0) (l1:100<=k1) (lz:100<=kz) (hG:∀f∈G0,f∈G1) :
  ∃N d,V6 N (M.cs.length+4) t.root r m d (two ((M.nodes.length+1:Nat):Int) ((M.nodes.length+1+1:Nat):Int)) /\
   Wm ba N (M.cs.length+4) t.root r m d (two ((M.nodes.length+1:Nat):Int) ((M.nodes.length+1+1:Nat):Int)) al G0 Bz ⟨0,0,ul t r (d false),ul t r (d true),vc t,k0,k1,kz,y0.c,y1.c,yz.c,0,0,0,yz.a,yz.F++(y1.F++(y0.F++G1)),.idle⟩:=by
 obtain⟨hN,hI⟩:=Z3 (g1:=g1) (g2:=g2) hB
 have l2:a2.mm.nodes.length=M.nodes.length+1+1:=by
  rw[h2,kC]
  show((kS M).push (fH g1) m).nodes.length+1=_
  rw[kC]
  rfl
 have e0:y0.a.mm=a2.mm.push (lR r m ((M.nodes.length+1:Nat):Int)) 0:=h0.mm
 have l3:y0.a.mm.nodes.length=M.nodes.length+1+1+1:=by rw[e0,kC,l2]
 have e1:y1.a.mm=y0.a.mm.push (lR r m ((M.nodes.length+1+1:Nat):Int)) 0:=h1.mm
 have ez:yz.a.mm=mm4 M g1 g2 r m ((M.nodes.length+1:Nat):Int) ((M.nodes.length+1+1:Nat):Int):=by
  have:yz.a.mm=y1.a.mm:=hz.mm
  rw[this,e1,e0,h2]
  rfl
 refine⟨_,_,hN,Nat.zero_le _,?_,?_,?_,hz.tk,l0,l1,lz,hz.ak,Nat.le_refl _,Nat.le_refl _,Nat.le_refl _,λ f hf=>List.mem_append_right _ (List.mem_append_right _ (List.mem_append_right _ (hG f hf))),λ _=>rfl⟩
 ·show Mb _ _ _ _ _ _ _ _ _ _ yz.a.mm .idle
  rw[ez]
  exact Mb.start hN rfl hI
 ·have h:=h0.tk
  rw[show(Ct.gW (rcT t r m ((M.nodes.length+1:Nat):Int)) a2.mm).1=ul t r ((a2.mm.nodes.length+1:Nat):Int) from rfl,l2] at h
  exact h.to (h1.le.trans hz.le) λ x hx=>List.mem_append_right _ (List.mem_append_right _ hx)
 ·have h:=h1.tk
  rw[show(Ct.gW (rcT t r m ((M.nodes.length+1+1:Nat):Int)) y0.a.mm).1=ul t r ((y0.a.mm.nodes.length+1:Nat):Int) from rfl,l3] at h
  exact h.to hz.le λ x hx=>List.mem_append_right _ hx
end
end
end Go.Proofs.YtbajmaoegmbfgaaGreat
