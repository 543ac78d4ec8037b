/- root in a world at rest: the memory in which swaps of the root begin; a swap alone, with any expected main node. -/
import Derived.Test.YtbajmaoegmbfgaaGreatGLr3
import Derived.Test.YtbajmaoegmbfgaaGreatGRt3
import Derived.Test.YtbajmaoegmbfgaaGreatGBr6
import Derived.Test.YtbajmaoegmbfgaaGreatGLe1

set_option linter.unusedSimpArgs false
set_option linter.unusedVariables false
namespace Go.Proofs.YtbajmaoegmbfgaaGreat
section
open Go Go.RowKit Go.Ct
def Fk(M:Mm):Mm:=⟨M.nodes,M.cs,M.gen+1⟩
structure P2(M:Mm)(c r m:Int):Prop where
 c1:1<=c
 c2:c<=M.cs.length
 cr:aQ M.cs c=r
 kr:(bF M.nodes r).kind=2
 m1:1<=(bF M.nodes r).main
 m2:(bF M.nodes r).main<=M.cs.length
 mv:aQ M.cs (bF M.nodes r).main=m
 mc:(bF M.nodes r).main≠c
 km:bX (bF M.nodes m)
 p1:1<=(bF M.nodes m).prev
 p2:(bF M.nodes m).prev<=M.cs.length
 pv:aQ M.cs (bF M.nodes m).prev=0
section
variable{H:ByteArray->Nat}{M s:Mm}{ts:List dM}{σ:Kw}{t:dM}{c r m e d n x:Int}{v:Nv}
theorem P2.pc(h:P2 M c r m):(bF M.nodes m).prev≠c:=λ e=>by
 have h1:=h.pv
 rw[e,h.cr] at h1
 have:=eL (N:=M.nodes) (i:=r) (by rw[h.kr];decide)
 omega
theorem P2.rin(h:P2 M c r m):1<=r/\r<=M.nodes.length:=eL (N:=M.nodes) (i:=r) (by rw[h.kr];decide)
theorem P2.min(h:P2 M c r m):1<=m/\m<=M.nodes.length:=gK h.km
theorem yw(q:QS H M ts σ)(ht:t∈ts)(hr:aQ M.cs t.root=r)(hm:aQ M.cs (bF M.nodes r).main=m):P2 M t.root r m:=by
 obtain⟨r1,r2,r3⟩:=q.root ht
 rw[hr] at r3
 obtain⟨c1,c2,hk,hp⟩:=q.main r3
 have hne:=q.xg ht r3
 rw[hm] at hk hp
 have em:=q.mm
 subst em
 have h1:=q.inv.iU hk
 exact⟨r1,r2,hr,r3,c1,c2,hm,Ne.symm hne,hk,h1.1,h1.2.1,hp⟩
theorem P2.gen(h:P2 M c r m):P2 (Fk M) c r m:=⟨h.c1,h.c2,h.cr,h.kr,h.m1,h.m2,h.mv,h.mc,h.km,h.p1,h.p2,h.pv⟩
theorem By(hk:v.kind=2∨v.kind=3∨v.kind=5∨v.kind=6∨v.kind=8):(M.push v x).cs=M.cs++[x]:=if_pos hk
theorem P2.push(h:P2 M c r m)(hk:v.kind=2∨v.kind=3∨v.kind=5∨v.kind=6∨v.kind=8):P2 (M.push v x) c r m:=by
 have e1:(M.push v x).nodes=M.nodes++[cW v M.cs.length]:=rfl
 have e2:=By (M:=M) (x:=x) hk
 have nr:bF (M.push v x).nodes r=bF M.nodes r:=by rw[e1];exact sC h.rin.2
 have nm:bF (M.push v x).nodes m=bF M.nodes m:=by rw[e1];exact sC h.min.2
 have hl:(M.push v x).cs.length=M.cs.length+1:=by rw[e2];simp
 have ce:∀y:Int,y<=M.cs.length->aQ (M.push v x).cs y=aQ M.cs y:=λ y hy=>by rw[e2];exact oZ hy
 have:=h.c2
 have:=h.m2
 have:=h.p2
 exact⟨h.c1,by omega,by rw[ce _ h.c2];exact h.cr,by rw[nr];exact h.kr,by rw[nr];exact h.m1,by rw[nr];omega,by rw[nr,ce _ h.m2];exact h.mv,by rw[nr];exact h.mc,by rw[nm];exact h.km,by rw[nm];exact h.p1,by rw[nm];omega,by rw[nm,ce _ h.p2];exact h.pv⟩
theorem Jq{M':Mm}{y:Int}(e:M'=M.push v x)(hy:y<=M.nodes.length):bF M'.nodes y=bF M.nodes y:=by rw[e];exact sC hy
theorem Y0{M':Mm}(e:M'=M.push v x):bF M'.nodes ((M.nodes.length+1:Nat):Int)=cW v M.cs.length:=by rw[e];exact Vx _ _
theorem M6(M:Mm)(v:Nv)(x:Int):(M.push v x).nodes.length=M.nodes.length+1:=by show(M.nodes++[_]).length=_;simp
structure RoZ(s:Mm)(c r m e d n:Int):Prop extends P2 s c r m where
 kd:(bF s.nodes d).kind=8
 dold:(bF s.nodes d).aZ=r
 dexp:(bF s.nodes d).exp=e
 dnew:(bF s.nodes d).new=n
 s1:1<=(bF s.nodes d).status
 s2:(bF s.nodes d).status<=s.cs.length
 sc:(bF s.nodes d).status≠c
 sm:(bF s.nodes d).status≠(bF s.nodes r).main
 sp:(bF s.nodes d).status≠(bF s.nodes m).prev
 sv:aQ s.cs (bF s.nodes d).status=0
def xK2(t:dM)(d:Int):Tr:=.node d λ nd=>.load nd.status λ s=>oD t d s λ _=>.done (iD 0 (s==1))
def zu(t:dM)(d:Int):Int->Tr:=λ r'=>.node d λ n2=>.node d λ n3=>.iS n3.status 0 (if r'=n2.exp then 1 else 2) λ _=>xK2 t d
theorem RoZ.run(h:RoZ s c r m e d n)(ht:t.root=c){k:Nat}(hk:6<=k):∃cs,nE (qv t r d,s) k=(.done (iD 0 (m==e)),⟨s.nodes,cs,s.gen⟩)/\cs.length=s.cs.length/\aQ cs c=if m=e then n else r:=by
 obtain⟨st,hst⟩:∃st,st=(bF s.nodes d).status:=⟨_,rfl⟩
 have s1:=h.s1
 have s2:=h.s2
 have hc1:=h.c1
 have hc2:=h.c2
 rw[<- hst] at s1 s2
 obtain⟨b0,o0⟩:=Md h.c1 h.c2 h.cr
 obtain⟨csA,hA⟩:∃csA,csA=dZ s.cs c r d:=⟨_,rfl⟩
 have vA:∀x,aQ csA x=if x=c then d else aQ s.cs x:=λ x=>by rw[hA];exact gH o0 x
 have lA:csA.length=s.cs.length:=by rw[hA];exact eI
 have scA:aQ csA st=0:=by rw[vA,hst,if_neg h.sc];exact h.sv
 obtain⟨b1,o1⟩:=Md (cs:=csA) (c:=st) (o:=0) s1 (by rw[lA];exact s2) scA
 obtain⟨an,han⟩:∃an:Int,an=if m=e then 1 else 2:=⟨_,rfl⟩
 obtain⟨csB,hB⟩:∃csB,csB=dZ csA st 0 an:=⟨_,rfl⟩
 have vB:∀x,aQ csB x=if x=st then an else aQ csA x:=λ x=>by rw[hB];exact gH o1 x
 have lB:csB.length=s.cs.length:=by rw[hB];exact eI.trans lA
 have rB:aQ csB c=d:=by rw[vB,if_neg (by rw[hst];exact Ne.symm h.sc),vA,if_pos rfl]
 obtain⟨b2,o2⟩:=Md (cs:=csB) (c:=c) (o:=d) h.c1 (by rw[lB];exact h.c2) rB
 obtain⟨w,hw⟩:∃w:Int,w=if an=1 then n else r:=⟨_,rfl⟩
 obtain⟨csC,hC⟩:∃csC,csC=dZ csB c d w:=⟨_,rfl⟩
 have e1:nE (qv t r d,s) 1=(.load (bF s.nodes r).main λ m'=>oN t r m' (zu t d),⟨s.nodes,csA,s.gen⟩):=by
  show Cn (qv t r d,s)=_
  rw[Qu,ht,b0]
  show Ct.jH (lG t (bF s.nodes d).aZ (zu t d)) ⟨s.nodes,dZ s.cs c r d,s.gen⟩=_
  rw[h.dold,<- hA]
  rfl
 have e2:nE (qv t r d,s) 2=(.load (bF s.nodes m).prev λ p=>if p=0 then zu t d m else .node p λ np =>
   if bX np then(if t.ro=true then oG r m p false (zu t d) else Ei t λ r'=>.node r' λ nr=>.node r λ ni=>oG r m p (nr.gen==ni.gen) (zu t d)) else Li r m p (zu t d),⟨s.nodes,csA,s.gen⟩):=by
  show Cn (nE _ 1)=_
  rw[e1,Qy]
  dsimp only
  rw[vA,if_neg h.mc,h.mv]
  rfl
 have e3:nE (qv t r d,s) 3=(.iS st 0 an λ _=>xK2 t d,⟨s.nodes,csA,s.gen⟩):=by
  show Cn (nE _ 2)=_
  rw[e2,Qy]
  dsimp only
  rw[vA,if_neg h.pc,h.pv,if_pos rfl]
  show(Tr.iS (bF s.nodes d).status 0 (if m=(bF s.nodes d).exp then 1 else 2) λ _=>xK2 t d,(⟨s.nodes,csA,s.gen⟩:Mm))=_
  rw[h.dexp,<- han,<- hst]
 have e4:nE (qv t r d,s) 4=(.load st λ s=>oD t d s λ _=>.done (iD 0 (s==1)),⟨s.nodes,csB,s.gen⟩):=by
  show Cn (nE _ 3)=_
  rw[e3,Qu]
  dsimp only
  rw[<- hB,hst]
  rfl
 have e5:nE (qv t r d,s) 5=(.iS c d w λ _=>.done (iD 0 (an==1)),⟨s.nodes,csB,s.gen⟩):=by
  show Cn (nE _ 4)=_
  rw[e4,Qy]
  dsimp only
  rw[vB,if_pos rfl]
  show(Tr.iS t.root d (if an=1 then(bF s.nodes d).new else(bF s.nodes d).aZ) λ _=>.done (iD 0 (an==1)),(⟨s.nodes,csB,s.gen⟩:Mm))=_
  rw[ht,h.dnew,h.dold,<- hw]
 have hf:(an==1)=(m==e):=by
  by_cases he:m=e
  ·rw[han,if_pos he,he,beq_self_eq_true,beq_self_eq_true]
  ·rw[han,if_neg he];rw[show(m==e)=false from beq_eq_false_iff_ne.2 he];rfl
 have e6:nE (qv t r d,s) 6=(.done (iD 0 (m==e)),⟨s.nodes,csC,s.gen⟩):=by
  show Cn (nE _ 5)=_
  rw[e5,Qu]
  dsimp only
  rw[<- hC,hf]
  rfl
 refine⟨csC,(I3 (by rw[e6];rfl) hk).1.trans e6,by rw[hC];exact eI.trans lB,?_⟩
 rw[hC,gH o2,if_pos rfl,hw,han]
 by_cases he:m=e
 ·rw[if_pos he,if_pos he,if_pos rfl]
 ·rw[if_neg he,if_neg he,if_neg (by decide)]
theorem vr{g:Int}(h:P2 M c r m):RoZ (((Fk M).push (kH g) m).push (qE r e ((M.nodes.length+1:Nat):Int)) 0) c r m e ((M.nodes.length+1+1:Nat):Int) ((M.nodes.length+1:Nat):Int):=by
 obtain⟨n,hn⟩:∃n:Int,n=((M.nodes.length+1:Nat):Int):=⟨_,rfl⟩
 obtain⟨M1,hM1⟩:∃M1,M1=(Fk M).push (kH g) m:=⟨_,rfl⟩
 obtain⟨M2,hM2⟩:∃M2,M2=M1.push (qE r e n) 0:=⟨_,rfl⟩
 rw[<- hn,<- hM1,<- hM2]
 have l1:M1.nodes.length=M.nodes.length+1:=by rw[hM1];exact M6 _ _ _
 have c1:M1.cs=M.cs++[m]:=by rw[hM1];exact By (.inl rfl)
 have c2:M2.cs=M1.cs++[0]:=by rw[hM2];exact By (.inr (.inr (.inr (.inr rfl))))
 have d1:M1.cs.length=M.cs.length+1:=by rw[c1];simp
 have d2:M2.cs.length=M.cs.length+2:=by rw[c2,List.length_append,d1];rfl
 have h1:P2 M1 c r m:=by rw[hM1];exact h.gen.push (.inl rfl)
 have h2:P2 M2 c r m:=by rw[hM2];exact h1.push (.inr (.inr (.inr (.inr rfl))))
 have b0:bF M2.nodes ((M.nodes.length+1+1:Nat):Int)=cW (qE r e n) M1.cs.length:=by rw[<- l1];exact Y0 hM2
 have s0:(cW (qE r e n) M1.cs.length).status=((M1.cs.length+1:Nat):Int):=rfl
 have nr:(bF M2.nodes r).main=(bF M1.nodes r).main:=by rw[Jq hM2 h1.rin.2]
 have nm:(bF M2.nodes m).prev=(bF M1.nodes m).prev:=by rw[Jq hM2 h1.min.2]
 have hc2:=h1.c2
 have hm2:=h1.m2
 have hp2:=h1.p2
 refine⟨h2,by rw[b0];rfl,by rw[b0];rfl,by rw[b0];rfl,by rw[b0];rfl,by rw[b0,s0];omega,by rw[b0,s0];omega,by rw[b0,s0];omega,by rw[b0,s0,nr];omega,by rw[b0,s0,nm];omega,?_⟩
 rw[b0,s0,c2]
 exact Sb _ _
end
end

/- RootExpects: the walk. -/
section
open Go Go.RowKit Go.Ct
theorem Yi(v:Int){n:Nat}(h0:0<n)(h1:n<=274877906944):(uG v n).toNat<n:=by
 have:=yM (v:=v) (n:=(n:Int)) (by omega) (by omega)
 omega
theorem No{ba k B k' B1 q N:Nat}{t:dM}{r m e d n:Int}{a:AS}{G:Fr}{y z:TY}{M:Mm}(hN:6<=N)(h:RoZ M t.root r m e d n)(hM:M=a.mm.push (qE r e n) 0)(hd:d=((a.mm.nodes.length+1:Nat):Int))(hy:zd ba (zq t r e n) a G k B y)
  (hz:TYS ba (nE ((Ct.jH (zq t r e n) a.mm).1,y.a.mm) N) y.a (y.F++G) k' B1 q z):TK ba (.done (iD 0 (m==e))) z.c z.a (z.F++(y.F++G)) 0/\aQ z.a.cs t.root=if m=e then n else r:=by
 subst hM hd
 obtain⟨cs,e1,_,e3⟩:=h.run rfl hN
 have e0:(Ct.jH (zq t r e n) a.mm).1=qv t r ((a.mm.nodes.length+1:Nat):Int):=rfl
 have em:y.a.mm=a.mm.push (qE r e n) 0:=hy.mm
 rw[e0,em,e1] at hz
 refine⟨hz.tk.zero rfl,?_⟩
 have e4:z.a.cs=cs:=congrArg Mm.cs hz.mm
 rw[e4]
 exact e3
set_option maxRecDepth 100000 in
set_option maxHeartbeats 4000000 in
theorem Hv{l l2:List Int}{a a2:Option Addr}{c c2:Nat}{v:Int}{w:World}(h1:Go.Ct.Cl w a (aH l))(hl:l.length<=17592186043904)(h2:Go.Ct.Cl w a2 (aH l2))(hl2:l2.length<=17592186043904) :
  Calls Tryz.prog 7 #[.slice a l.length c,.slice a2 l2.length c2,.int .i64 v] w λ e w'=>e=.returned (.bool true)/\St w [] [] w':=by
 refine enter Tryz.func7 Tryz.ntmps7 rfl rfl (SF.s2 h1 h2) ?_
 simp only[cD]
 refine Kc2 ?_;refine aD (Zf (Hc:=λ q:Nat×Nat×Nat×Wd=>wH q.2.2.1 q.1 q.2.1 q.2.2.2) (H1:=λ q=>(q.1,nY q.2.1 (q.2.2.1:Int) q.2.2.2.pt q.2.2.2.ts.length q.2.2.2.kt q.2.2.2.pe (nD q.2.2.2.ex).length q.2.2.2.ke)::(q.2.1,xM q.2.2.2.z)::G6 q.2.1 q.2.2.2.ex) (Fc:=λ q=>aL q.2.2.2.z.L) (F1:=λ q=>aL q.2.2.2.z.L) (Oc:=λ q=>wO q.2.2.2) (O1:=λ q=>⟨q.2.2.2.pt,sE q.2.2.2.ts,q.2.2.2.kt,29,2⟩::⟨q.2.2.2.pe,yJ (nD q.2.2.2.ex),q.2.2.2.ke,74,1⟩::⟨q.2.2.2.z.pn,iR q.2.2.2.z.L,q.2.2.2.z.cn,47,14⟩::⟨q.2.2.2.z.pc,aH q.2.2.2.z.cs,q.2.2.2.z.cc,37,1⟩::Cz q.2.2.2.ex) (hH1:=λ q=>List.append_nil _) (hF1:=λ q=>List.append_nil _) (hO1:=λ q=>List.append_nil _) (hc:=λ w1 hw=>Zq (hw.cl fin) hl)) (λ x20 h20=>?_)
 have hm:=h20.1
 have hW:=h20.2
 have htl:=hW.tl
 have ht0:=hW.t0
 refine Ka4 ?_;refine aD (cT 0 0 (V:=λ _:XS×List aU=>.tuple #[]) (hs:=wH x20.2.2.1 x20.1 x20.2.1 x20.2.2.2) (os:=wO x20.2.2.2) (A0:=aL x20.2.2.2.z.L) (H1:=λ r:XS×List aU=>[(x20.1,nY x20.2.1 (x20.2.2.1:Int) x20.2.2.2.pt x20.2.2.2.ts.length x20.2.2.2.kt none 0 0),(x20.2.1,xM r.1)]) (O1:=λ r=>[⟨x20.2.2.2.pt,sE x20.2.2.2.ts,x20.2.2.2.kt,29,2⟩,⟨none,yJ [],0,74,1⟩,⟨r.1.pn,iR r.1.L,r.1.cn,47,14⟩,⟨r.1.pc,aH r.1.cs,r.1.cc,37,1⟩]) (F1:=λ r=>aL r.1.L) (hc:=λ w hs=>Yb (by decide) (by decide) (by decide) hm hW (λ f hf=>hf) hs) (hA:=bJ.of λ f hf=>.inr (.inr (.inl hf))) (hF1:=λ r hr f hf=>by rw[hr.2,dE] at hf;exact .inr ((List.mem_append.1 hf).elim (λ h=>List.mem_append_right _ h) (λ h=>List.mem_append_left _ h)))) (λ x22 h22=>?_)
 have hZ:D3 x20.2.2.1 2434356874 1192612 0 (zW x20.2.2.2 x22.1):=h22.1
 have s1:x22.1.L.length<=2434356874:=hZ.sz.1
 have s2:x22.1.cs.length<=2434356874:=hZ.sz.2.1
 obtain⟨σ,hq⟩:=WR.rest (show WR (H8 x20.2.2.1) x20.2.2.1 x22.1.mm x20.2.2.2.ts [] from hZ.wr)
 refine aG ?_;refine J2 ?_;refine aD (Zf (Fc:=λ _=>[]) (Oc:=λ _=>[]) (hc:=λ w1 hw=>ui)) (λ x24 h24=>?_);refine iW ?_
 refine eE [9,25,26,27,28,29,30,31,32,33,34,35,36,37] (λ j:Nat×Nat=>[(9,.pointer (some ⟨j.1,0,none⟩))]) (λ j=>j.2<x20.2.2.2.ts.length) (λ j=>[(j.1,.cells ⟨[.int .i64 (x20.2.2.2.ts.getD j.2 ⟨0,false⟩).root,.bool (x20.2.2.2.ts.getD j.2 ⟨0,false⟩).ro]⟩ 29 (0,0)),(x24,Qe a2 l2 c2 (nB l2 0)),(x20.1,nY x20.2.1 (x20.2.2.1:Int) x20.2.2.2.pt x20.2.2.2.ts.length x20.2.2.2.kt none 0 0),(x20.2.1,xM x22.1)]) (λ _=>aL x22.1.L) (λ _=>[⟨x20.2.2.2.pt,sE x20.2.2.2.ts,x20.2.2.2.kt,29,2⟩,⟨none,yJ [],0,74,1⟩,⟨x22.1.pn,iR x22.1.L,x22.1.cn,47,14⟩,⟨x22.1.pc,aH x22.1.cs,x22.1.cc,37,1⟩]) (by decide) (λ _=>by exact rfl) ?_ (λ j f hx=>?_)
 ·refine gX (.one 0 [] (.one 1 [] (.one 2 [] (.one 3 [] (.one 4 [] (.one 5 [] (.one 6 [] (.one 7 [] (.one 8 [] (.one 9 [] (.two 10 [3] (.one 11 [] (.one 12 [] (.one 13 [3,8,11,12] (.one 14 [] .nil)))) 0 [] (.two 13 [3,8] (.one 10 [3] (.one 11 [] (.one 12 [] (.one 14 [] .nil)))) 0 [] .nil)))))))))))) ?_
  refine il ?_;refine Vn ?_;refine oF ?_
  refine iB (E:=[10,13]) (by decide +kernel) ((.cons ?_ (.cons ?_ .nil)))
  ·refine lP (i:=10) (hq:=(xA (hc:=λ w1 hw=>eN x20.2.2.2.ts.length (hw.tape cX fin hl2) (by omega) (by omega)))) (h:=λ x35 h35=>?_)
   refine bW (i:=11) (hq:=(Mr (cs:=sE x20.2.2.2.ts) (k:=x35) rf rf gQ eH (.own .head) (by omega) (by rw[kT];omega))) (h:=?_);refine bW (i:=12) (hq:=(Gr (ts:=x20.2.2.2.ts) (q:=x35) rf eH (.own .head) (by omega))) (h:=?_);refine gW (hfire:=(λ _=>by((repeat (first|exact aT.nil|refine aT.cons (by first|exact iP|exact iV (hq:=Mr (cs:=sE x20.2.2.2.ts) (k:=x35) rf rf gQ eH (.own .head) (by omega) (by rw[kT];omega))|exact iV (hq:=Gr (ts:=x20.2.2.2.ts) (q:=x35) rf eH (.own .head) (by omega))) ?_));done))) (h:=λ x9=>?_);refine Ay ?_
   refine eY ((x9,x35)) ?_ (hw1:=λ w hw=>hw)
   ·omega
  ·refine gV (i:=13) (h:=λ x9=>?_)
   refine bG (i:=10) (hq:=(xA (hc:=λ w1 hw=>eN x20.2.2.2.ts.length (hw.tape cX fin hl2) (by omega) (by omega)))) (h:=λ x35 h35=>?_);refine bW (i:=11) (hq:=(Mr (cs:=sE x20.2.2.2.ts) (k:=x35) rf rf gQ eH (.own .head) (by omega) (by rw[kT];omega))) (h:=?_);refine bW (i:=12) (hq:=(Gr (ts:=x20.2.2.2.ts) (q:=x35) rf eH (.own .head) (by omega))) (h:=?_);refine Ay ?_
   refine eY ((x9,x35)) ?_ (hw1:=λ w hw=>hw)
   ·omega
 dsimp only[gZ,List.map,List.cons_append,List.nil_append]
 have htm:=Hq hx
 have hrt:=hZ.root (by decide) htm
 refine lD ?_;refine aD (cMH (V:=λ q:Nat×AS=>.pointer (some ⟨q.1,0,none⟩)) (hs:=[(x20.2.1,xM x22.1)]) (os:=Wa x22.1) (hs':=λ _=>[(x20.2.1,xM x22.1.a0)]) (Hc:=λ q=>[(q.1,eS q.2)]) (os':=λ _=>Wa x22.1) (Oc:=λ q=>eX q.2) (Fc:=λ q=>aL q.2.L) (A0:=aL x22.1.L) (hA:=bJ.of λ f hf=>.inr (.inr (.inl hf))) (hc:=λ w1 hw=>Wm hZ.z (oO hZ) (by omega) (by omega) (λ f hf=>hf) hw)) (λ x42 h42=>?_)
 obtain⟨hmm0,hok0⟩:=h42
 have hln:x22.1.mm.nodes.length=x22.1.L.length:=by show(x22.1.L.map aU.c).length=_;rw[List.length_map]
 have hl0:x42.2.mm.nodes.length=x22.1.L.length:=by rw[hmm0];exact hln
 have hc0:x42.2.mm.cs.length=x22.1.cs.length:=by rw[hmm0];rfl
 have hgn:x42.2.gen=x22.1.gen:=congrArg Mm.gen hmm0
 have hak0:AK x42.2 (aL x42.2.L++aL x22.1.L) 2434356874:=⟨hok0,by omega,by omega,λ f hf=>.inr (List.mem_append_left _ hf)⟩
 obtain⟨r,p,hro0,hbo0,hr1,hr2,hp2⟩:=Q3 hZ htm
 have hrv:=hq.nT (M:=x22.1.mm) htm hro0
 have hbm:=hq.body (M:=x22.1.mm) hbo0
 have hRB:=yw hq htm hrv hbm.2
 have hg0:0<=x22.1.gen:=hZ.z.gen0
 have hg1:x22.1.gen<=2434356874:=hZ.sz.2.2
 have hz2:2<=x22.1.L.length:=hZ.z.two
 have hmv:(uG v x22.1.L.length).toNat<x22.1.L.length:=Yi v (by omega) (by omega)
 replace hr2:r<=x22.1.L.length:=hr2
 replace hp2:p<=x22.1.L.length:=hp2
 refine iW ?_;refine gE [0,1,2,3,4,5,6,7,8,9,10,11,12,13] ?_;refine il ?_;refine J4 ?_;refine bW (i:=6) (hq:=(aP (k:=3) rf cX eH (by simp only[List.drop_zero,List.take_succ_cons,List.take_zero];exact rfl) rfl)) (h:=?_);refine bY ?_;refine dB (i:=8) (hq:=(cV (v:=.tuple #[.int .i64 r,.bool true]) (hc:=λ w1 hw=>Zy (oO hZ) (hw.jx (by exact .inr (.inr (.inr ⟨_,.tail _ (.tail _ (.tail _ (.tail _ (.head _)))),rfl,rfl⟩))) (by exact .inr (.inr (.inr ⟨_,.tail _ (.tail _ (.tail _ (.tail _ (.tail _ (.head _))))),rfl,rfl⟩))) (λ f hf=>.inr (.inr (.inl (List.mem_append_right _ hf)))) hZ.z.fit) (Vg hZ.z) (by show x22.1.L.length<=_;omega) (by show x22.1.cs.length<=_;omega) _ _ hro0 hrt))) (h:=λ x52=>?_);refine bB ?_;refine Ka ?_;refine Ka ?_;refine kh ?_;refine lD ?_;refine I7 ?_;refine aB (aP (k:=3) rf cX eH (by simp only[List.drop_zero,List.take_succ_cons,List.take_zero];exact rfl) rfl) rfl ?_;refine aA ?_;refine aM (cV (v:=.tuple #[.int .i64 p,.bool true]) (hc:=λ w1 hw=>jn (oO hZ) (hw.jx (by exact .inr (.inr (.inr ⟨_,.tail _ (.tail _ (.tail _ (.tail _ (.head _)))),rfl,rfl⟩))) (by exact .inr (.inr (.inr ⟨_,.tail _ (.tail _ (.tail _ (.tail _ (.tail _ (.head _))))),rfl,rfl⟩))) (λ f hf=>.inr (.inr (.inl (List.mem_append_right _ hf)))) hZ.z.fit) (Vg hZ.z) (by show x22.1.L.length<=_;omega) (by show x22.1.cs.length<=_;omega) _ hbo0 (by omega))) (λ x64=>?_);refine Kc7 ?_;refine kE ?_;refine aA ?_
 (refine Ka3 ?_)
 refine Mq ?_;refine aA ?_
 (refine Ka3 ?_)
 refine Mq ?_;refine aA ?_
 (refine aF ?_;refine aE ?_)
 ((refine aF ?_;refine bP ?_));refine bZ ?_;refine aG ?_
 refine bC (λ c80=>?_) (λ c80=>?_)
 ·try (first|contradiction|(exfalso;omega))
  refine J2 ?_;refine mH ?_;refine aA ?_
  (refine Ka3 ?_)
  refine Ka6 ?_
  (refine Ka3 ?_)
  refine Ka6 ?_
  (refine aF ?_;refine aM (cV (hc:=λ w1 hw=>Bb w1)) (λ x90=>?_))
  refine Kb6 ?_
  refine aN Tryz.results7 (λ w hw=>?_)
  first
  | exact⟨rfl,hw.done⟩
  | exact⟨by rw[hv2];exact Lt _,hw.done⟩
  | (exfalso;rw[hbe] at g140;exact nomatch g140)
  | (exfalso;simp_all;done)
 ·try (first|contradiction|(exfalso;omega))
  refine Di ?_;refine cZ ?_;refine J3 ?_;refine I7 ?_;refine P6 ?_;refine aM (cV (v:=.int .i64 (((uG v x22.1.L.length).toNat:Nat):Int)) (hc:=λ w1 hw=>vh v x22.1.L.length w1 (by omega) (by omega))) (λ x102=>?_);refine aB (mL (m:=3) (n:=(uG v x22.1.L.length).toNat) rf rf (by omega)) rfl ?_;refine zB ?_;refine aD (cM (V:=λ _:Unit=>.int .i64 (x42.2.gen+1)) (hs:=[(x42.1,eS x42.2)]) (os:=eX x42.2) (hs':=λ _=>[(x42.1,eS {x42.2 with gen:=x42.2.gen+1})]) (os':=λ _=>eX x42.2) (Fc:=λ _=>[]) (A0:=[]) (hc:=λ w1 hw=>Xt (by omega) (by omega) hw)) (λ x106 h106=>?_);refine bM ?_;refine aA ?_;refine aD (cM (V:=λ _:AX=>.int .i64 ((x22.1.L.length+1:Nat):Int)) (hs:=[(x42.1,eS {x42.2 with gen:=x42.2.gen+1})]) (os:=eX x42.2) (A0:=[(none,aH []),(none,dD [])]) (hs':=λ X=>[(x42.1,eS (({x42.2 with gen:=x42.2.gen+1}:AS).al (Xl (x42.2.gen+1)) [] [] p X))]) (os':=λ X=>eX (({x42.2 with gen:=x42.2.gen+1}:AS).al (Xl (x42.2.gen+1)) [] [] p X)) (Fc:=λ X=>(lM (Xl (x42.2.gen+1)) [] [] x42.2.cs.length X).fr) (hc:=λ w1 hw=>by rw[<- hl0];exact rH (n:=Xl (x42.2.gen+1)) (xs:=[]) (ys:=[]) hak0.gen.ok (hak0.gen.small (by omega)) p rfl rfl (by simp) (by simp) (λ f hf=>hf) hw)) (λ x109 h109=>?_)
  have hak1:=hak0.gen.al (n:=Xl (x42.2.gen+1)) (xs:=[]) (ys:=[]) (init:=p) (by simp) (by simp) (aA6 _ _ _) (by show p<=(x42.2.mm.nodes.length:Int)+1;omega) x109
  have hmm1:(({x42.2 with gen:=x42.2.gen+1}:AS).al (Xl (x42.2.gen+1)) [] [] p x109).mm=(Fk x22.1.mm).push (kH (x42.2.gen+1)) p:=by rw[mA,show({x42.2 with gen:=x42.2.gen+1}:AS).mm=Fk x22.1.mm by rw[<- hmm0];rfl];rfl
  have hl1:(({x42.2 with gen:=x42.2.gen+1}:AS).al (Xl (x42.2.gen+1)) [] [] p x109).mm.nodes.length=x22.1.L.length+1:=by rw[hmm1,M6];show x22.1.mm.nodes.length+1=_;rw[hln]
  have hRZ:=vr (e:=((3+(uG v x22.1.L.length).toNat:Nat):Int)) (g:=x42.2.gen+1) hRB
  rw[<- hmm1,hln] at hRZ
  refine Ka4 ?_;refine aB (sd rf (λ w=>Ju _ w)) rfl ?_;refine bP ?_;refine pQ ?_;refine aA ?_;refine aD (cMH (V:=λ x:Nat×TY=>.pointer (some ⟨x.1,0,none⟩)) (hs:=[(x42.1,eS (({x42.2 with gen:=x42.2.gen+1}:AS).al (Xl (x42.2.gen+1)) [] [] p x109))]) (os:=eX (({x42.2 with gen:=x42.2.gen+1}:AS).al (Xl (x42.2.gen+1)) [] [] p x109)) (hs':=λ x=>[(x42.1,eS x.2.a)]) (Hc:=λ x=>[(x.1,tO x42.1 x.2.c 0)]) (os':=λ x=>eX x.2.a) (Oc:=λ _=>[]) (Fc:=λ x=>x.2.F) (A0:=aL (({x42.2 with gen:=x42.2.gen+1}:AS).al (Xl (x42.2.gen+1)) [] [] p x109).L) (hA:=hak1.aBY) (hc:=λ w1 hw=>da (t:=(x20.2.2.2.ts.getD j.2 ⟨0,false⟩)) (aZ:=r) (exp:=((3+(uG v x22.1.L.length).toNat:Nat):Int)) (nw:=((x22.1.L.length+1:Nat):Int)) hrt (by rw[hl1];omega) (by rw[hl1];omega) (by rw[hl1];exact Int.le_refl _) hak1 (by omega) (λ f hf=>hf) hw)) (λ x116 h116=>?_);refine iW ?_;refine J2 ?_;refine tS ?_
  refine bC (λ c118=>?_) (λ c118=>?_)
  ·try (contradiction)
  ·try (first|contradiction|(exfalso;omega))
   refine aV ?_;refine J2 ?_;refine aD (cM (V:=λ _:TY=>.int .i64 ((uE ((Ct.jH (zq (x20.2.2.2.ts.getD j.2 ⟨0,false⟩) r ((3+(uG v x22.1.L.length).toNat:Nat):Int) ((x22.1.L.length+1:Nat):Int)) (({x42.2 with gen:=x42.2.gen+1}:AS).al (Xl (x42.2.gen+1)) [] [] p x109).mm).1,x116.2.a.mm) 20:Nat):Int)) (hs:=[(x116.1,tO x42.1 x116.2.c 0),(x42.1,eS x116.2.a)]) (os:=eX x116.2.a) (hs':=λ r=>[(x116.1,tO x42.1 r.c r.n),(x42.1,eS r.a)]) (os':=λ r=>eX r.a) (Fc:=λ r=>r.F) (A0:=aL x116.2.a.L++(x116.2.F++((lM (Xl (x42.2.gen+1)) [] [] x42.2.cs.length x109).fr++(aL x42.2.L++aL x22.1.L)))) (hA:=h116.ak.all) (hc:=λ w1 hw=>a7 (most:=20) (k:=980) h116.tk h116.ak (by omega) (by omega) (λ f hf=>List.mem_append_left _ hf) (λ f hf=>List.mem_append_right _ hf) hw)) (λ x120 h120=>?_)
   obtain⟨hk2,hv2⟩:=No (N:=20) (by decide) hRZ rfl (by rw[hl1]) h116 h120
   have hc2:x120.a.cs.length<=2434360000:=Nat.le_trans h120.ak.s2 (by decide)
   refine aG ?_;refine J2 ?_;refine iW ?_;refine iX ?_;refine tS ?_
   refine bC (λ c124=>?_) (λ c124=>?_)
   ·try (first|contradiction|(exfalso;omega))
    have he:p=((3+(uG v x22.1.L.length).toNat:Nat):Int):=by exact c124.symm
    rw[beq_iff_eq.2 he] at hk2
    rw[if_pos he] at hv2
    have hbe:(((3+(uG v x22.1.L.length).toNat:Nat):Int)==p)=true:=by rw[he];exact beq_self_eq_true _
    refine yD ?_;refine J1 ?_;refine J0 ?_;refine aM (cV (hc:=λ w1 hw=>Bb w1)) (λ x126=>?_);refine aA ?_
    (refine Ka3 ?_)
    ((refine aF ?_;refine aM (cV (hc:=λ w1 hw=>O9 (d:=true) hk2.done.1 (hw.st.at cX))) (λ x129=>?_)));refine Ka6 ?_
    (refine Ka3 ?_)
    ((refine aF ?_;refine aM (cV (hc:=λ w1 hw=>yS (d:=true) hk2.done.1 hk2.done.2 (hw.st.at cX))) (λ x133=>?_)));refine zp ?_;((refine Ka3 ?_));((refine aF ?_;refine kE ?_));((refine aF ?_;refine Zc ?_));refine Ka6 ?_
    (refine eC 140 (λ g140=>?_) (λ g140=>?_)<;>refine Ka0 ?_)
    all_goals (refine J6 ?_;(first|refine aI ?_|(refine aF ?_;refine aD (cM (V:=λ _:Unit=>.int .i64 (aQ x120.a.cs (x20.2.2.2.ts.getD j.2 ⟨0,false⟩).root)) (hs:=[(x42.1,eS x120.a)]) (os:=eX x120.a) (hs':=λ _=>[(x42.1,eS {x120.a with acc:=up x120.a.acc})]) (os':=λ _=>eX x120.a) (Fc:=λ _=>[]) (hc:=λ w1 hw=>D7 hw _ hrt (by omega))) (λ x144 h144=>?_)));refine Ka0 ?_;refine uT ?_;refine J1 ?_)
    all_goals
    refine aN Tryz.results7 (λ w hw=>?_)
    first
    | exact⟨rfl,hw.done⟩
    | exact⟨by rw[hv2];exact Lt _,hw.done⟩
    | (exfalso;rw[hbe] at g140;exact nomatch g140)
    | (exfalso;simp_all;done)
   ·try (first|contradiction|(exfalso;omega))
    have he:¬p=((3+(uG v x22.1.L.length).toNat:Nat):Int):=by exact λ e=>c124 e.symm
    rw[beq_eq_false_iff_ne.2 he] at hk2
    rw[if_neg he] at hv2
    have hbe:(((3+(uG v x22.1.L.length).toNat:Nat):Int)==p)=false:=beq_eq_false_iff_ne.2 (Ne.symm he)
    refine aV ?_;refine J0 ?_;refine aM (cV (hc:=λ w1 hw=>Bb w1)) (λ x126=>?_);refine aA ?_
    (refine Ka3 ?_)
    ((refine aF ?_;refine aM (cV (hc:=λ w1 hw=>O9 (d:=true) hk2.done.1 (hw.st.at cX))) (λ x129=>?_)));refine Ka6 ?_
    (refine Ka3 ?_)
    ((refine aF ?_;refine aM (cV (hc:=λ w1 hw=>yS (d:=true) hk2.done.1 hk2.done.2 (hw.st.at cX))) (λ x133=>?_)));refine zp ?_;((refine Ka3 ?_));((refine aF ?_;refine kE ?_));((refine aF ?_;refine Zc ?_));refine Ka6 ?_
    (refine eC 140 (λ g140=>?_) (λ g140=>?_)<;>refine Ka0 ?_)
    all_goals (refine J6 ?_;(first|refine aI ?_|(refine aF ?_;refine aD (cM (V:=λ _:Unit=>.int .i64 (aQ x120.a.cs (x20.2.2.2.ts.getD j.2 ⟨0,false⟩).root)) (hs:=[(x42.1,eS x120.a)]) (os:=eX x120.a) (hs':=λ _=>[(x42.1,eS {x120.a with acc:=up x120.a.acc})]) (os':=λ _=>eX x120.a) (Fc:=λ _=>[]) (hc:=λ w1 hw=>D7 hw _ hrt (by omega))) (λ x144 h144=>?_)));refine Ka0 ?_;refine uT ?_;refine J1 ?_)
    all_goals
    refine aN Tryz.results7 (λ w hw=>?_)
    first
    | exact⟨rfl,hw.done⟩
    | exact⟨by rw[hv2];exact Lt _,hw.done⟩
    | (exfalso;rw[hbe] at g140;exact nomatch g140)
    | (exfalso;simp_all;done)
end

end Go.Proofs.YtbajmaoegmbfgaaGreat
