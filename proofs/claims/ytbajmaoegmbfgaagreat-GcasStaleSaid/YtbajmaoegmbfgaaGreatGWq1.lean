/- Merged. -/
import Derived.Test.YtbajmaoegmbfgaaGreatGWo7
import Derived.Test.YtbajmaoegmbfgaaGreatGGc4
import Derived.Test.YtbajmaoegmbfgaaGreatGRn1
import Derived.Test.YtbajmaoegmbfgaaGreatGTt3
import Derived.Test.YtbajmaoegmbfgaaGreatGLe1
import Derived.Test.YtbajmaoegmbfgaaGreatGIxg
import Derived.Test.YtbajmaoegmbfgaaGreatGKw5
import Derived.Test.YtbajmaoegmbfgaaGreatGGc1
import Derived.Test.YtbajmaoegmbfgaaGreatGQw1
import Derived.Test.YtbajmaoegmbfgaaGreatGKw2
set_option linter.unusedSimpArgs false
set_option linter.unusedVariables false
namespace Go.Proofs.YtbajmaoegmbfgaaGreat
open Go Go.RowKit Go.Ct
section
section
variable{L:List aP}{cs:List Int}{gen:Int}{pn pc:Option Addr}{cn cc:Nat}{w:World}
theorem a7(hp:gC L cs gen)(h:qV w L cs pn pc)(hr:D7 L)(hl:L.length<=274877906944)(hc:cs.length<=274877906944)(c:Int)(ro:Bool){k:Nat}(ho:kC (L.map aP.c) cs c=some ((k+1:Nat):Int))(hk:k<L.length)(hi:c<=9223372036854775807) :
  Calls Tryz.prog 26 #[Iu L cs gen pn cn pc cc,.agg ⟨[.int .i64 c,.bool ro]⟩] w λ e w'=>e=.returned (.int .i64 (aB L ((k+1:Nat):Int)).nd.gen)/\St w [] [] w':=by
 refine enter Tryz.func26 Tryz.ntmps26 rfl rfl h.start ?_
 simp only[cC]
 refine J0 ?_;refine bM (λ x2=>?_);refine bM (λ x3=>?_);refine J1 ?_;refine nI ?_;refine bR ?_;refine aQ (cV (hc:=λ w1 hw=>Pp hp (h.Ih hw) hr hl hc _ _ ho hi)) (λ x10=>?_);refine Kb5 ?_;refine oV ?_
 refine bC (λ c14=>?_) (λ c14=>?_)
 ·exact nv c14
 ·try (exfalso;omega)
  refine aZ ?_;refine Kb9 ?_;refine rD ?_;refine fP ?_;refine J3 ?_;refine J1 ?_
  refine aR Tryz.results26 (λ w hw=>?_)
  exact⟨by rw[pR (by omega)];rfl,hw.done⟩
end
theorem L6(x:Int):Ending.returned (pF [Value.bool (x==x)])=.returned (.bool true):=by rw[beq_self_eq_true];rfl
abbrev zW(W:Wd)(z:XS):Wd:=⟨z,W.ts,W.pt,W.kt,[],none,0⟩
end
section
structure TK(ba:Nat)(t:Tr)(c:Cd)(a:AS)(G:Fr)(k:Nat):Prop where
 rp:lW ba t a.mm c a.mm G
 ar:eE t=true
 tm:bU t k 64
structure AK(a:AS)(G:Fr)(B:Nat):Prop where
 ok:a.Ok
 s1:a.mm.nodes.length<=B
 s2:a.mm.cs.length<=B
 fam:∀f∈aM a.L,f.2=[]∨f∈G
section
variable{ba bt n k B:Nat}{t:Tr}{c:Cd}{a a':AS}{G G' A:Fr}{D:List Nat}{w:World}{O:List Ow}
theorem AK.all(h:AK a G B):bG A G O (aM a.L++G):=bG.of λ f hf=>(List.mem_append.1 hf).elim (λ h1=>(h.fam f h1).imp_right λ h=>.inr (.inl h)) λ h1=>.inr (.inr (.inl h1))
theorem AK.aBF(h:AK a G B):bG A G O (aM a.L):=bG.of λ f hf=>(h.fam f hf).imp_right λ h=>.inr (.inl h)
theorem AK.small(h:AK a G B)(hB:B<=100000000000):a.mm.Small:=⟨by have:=h.s1;omega,by have:=h.s2;omega⟩
theorem TK.dead(h:TK ba t c a G k)(hl:t.live=false):c.a.k=0:=(h.rp.kind h.ar).1.2 hl
theorem TK.done{r:Rs}(h:TK ba (.done r) c a G k):(c.a.k==0)=true/\(if(true:Bool)=true then c.r else Rs.zero)=r:=⟨by rw[h.dead rfl];rfl,by rw[if_pos rfl];exact(h.rp.kind h.ar).2.1 r rfl⟩
theorem TK.zero{ba k:Nat}{t:Tr}{c:Cd}{a:AS}{G:Fr}{r:Rs}(h:TK ba t c a G k)(e:t=.done r):TK ba (.done r) c a G 0:=by
 subst e
 exact⟨h.rp,h.ar,trivial⟩
structure TY where
 c:Cd
 F:Fr
 a:AS
 n:Nat
structure TYS(ba:Nat)(p:Tr×Mm)(a:AS)(G:Fr)(k B n:Nat)(y:TY):Prop where
 tk:TK ba p.1 y.c y.a (y.F++G) k
 mm:y.a.mm=p.2
 ak:AK y.a (y.F++G) B
 le:a.mm.Le y.a.mm
 n:y.n<=n
theorem Jx{F:Fr}(h:a.jZ a' F)(h2:∀f∈aM a.L,f.2=[]∨f∈G):∀f∈aM a'.L,f.2=[]∨f∈F++G:=λ f hf=>(h.fam f hf).elim .inl λ h=>h.elim (λ h=>(h2 f h).imp_right λ h=>List.mem_append_right _ h) λ h=>.inr (List.mem_append_left _ h)
theorem l8{most:Nat}(h:TK ba t c a G (k+most))(ha:AK a G B)(hB:B+64*most<=100000000000)(hn:n+most<1000000000)(hA1:∀f∈aM a.L,f∈A)(hA2:∀f∈G,f∈A)(hs:SF w D [(bt,tO ba c n),(ba,gH a)] A [] (gK a) w) :
  Calls Tryz.prog 30 #[.pointer (some ⟨bt,0,none⟩),.int .i64 ((most:Nat):Int)] w λ e w'=>∃y:TY,e=.returned (.int .i64 ((vB (t,a.mm) most:Nat):Int))/\TYS ba (lG (t,a.mm) most) a G k (B+64*most) (n+vB (t,a.mm) most) y/\SF w D [(bt,tO ba y.c y.n),(ba,gH y.a)] [] y.F (gK y.a) w':=by
 have hs1:=ha.s1
 have hs2:=ha.s2
 refine(Pv (most:=most) (m:=k+most) h.tm (by omega) h.ar h.rp ha.ok ⟨by omega,by omega⟩ hn hA1 hA2 hs).mono λ e w' ⟨y,e1,h5,hw⟩=>⟨⟨y.1,y.2.1,y.2.2,n+vB (t,a.mm) most⟩,e1,?_,hw⟩
 obtain⟨z0,z1,z2,z3⟩:=Ax (s:=a.mm) h.tm h.ar most (by omega)
 have em:y.2.2.mm=(lG (t,a.mm) most).2:=h5.mm
 exact⟨⟨by show lW ba _ y.2.2.mm _ y.2.2.mm _;rw[em];exact h5.rp,z1,by rw[show k=k+most-most by omega];exact z0⟩,em,⟨h5.ok,by show y.2.2.mm.nodes.length<=_;rw[em];omega,by show y.2.2.mm.cs.length<=_;rw[em];omega,Jx h5.gr ha.fam⟩,h5.gr.le,Nat.le_refl _⟩
structure zb(ba:Nat)(T:Tr)(a:AS)(G:Fr)(k B:Nat)(y:TY):Prop where
 tk:TK ba (Ct.gX T a.mm).1 y.c y.a (y.F++G) k
 mm:y.a.mm=(Ct.gX T a.mm).2
 ak:AK y.a (y.F++G) B
 le:a.mm.Le y.a.mm
theorem q7{T:Tr}{y:Nat×Cd×Fr×AS}(hT:bU T k 64)(ha:AK a G B)(h:tY ba (Ct.gX T a.mm) a [] y.2/\eE (Ct.gX T a.mm).1=true):zb ba T a G k (B+64) ⟨y.2.1,y.2.2.1,y.2.2.2,0⟩:=by
 obtain⟨h1,h2⟩:=h
 have h5:=zl.of h1
 obtain⟨z1,z2⟩:=qJ a.mm hT
 have hs1:=ha.s1
 have hs2:=ha.s2
 have em:y.2.2.2.mm=(Ct.gX T a.mm).2:=h5.mm
 exact⟨⟨by show lW ba _ y.2.2.2.mm _ y.2.2.2.mm _;rw[em];exact lW.more h5.rp λ x hx=>by rw[List.append_nil] at hx;exact List.mem_append_left _ hx,h2,mC a.mm hT 64⟩,em,⟨h5.ok,by show y.2.2.2.mm.nodes.length<=_;rw[em];omega,by show y.2.2.2.mm.cs.length<=_;rw[em];omega,Jx h5.gr ha.fam⟩,h5.gr.le⟩
theorem Y7{n c:Nat}{v:Nv}(h:lX n c v):lX n c {v with main:=0,prev:=0,status:=0}:=⟨h.bJ,h.exp,h.new,h.br,bK _,bK _,bK _,h.bm,h.hash⟩
theorem AK.al(h:AK a G B){n:Nd}{xs:List Int}{ys:List Pr}{init:Int}(hx:xs.length<=274877906944)(hy:ys.length<=274877906944)(hb:lX a.mm.nodes.length a.mm.cs.length {n.c xs ys with main:=0,prev:=0,status:=0})(hi:init<=a.mm.nodes.length+1)(X:AX):AK (a.al n xs ys init X) ((nM n xs ys a.cs.length X).fr++G) (B+1):=by
 have hs1:=h.s1
 have hs2:=h.s2
 refine⟨h.ok.al X hx hy hb hi,?_,?_,λ f hf=>((AS.jZ.al a n xs ys init X).fam f hf).elim .inl λ h1=>h1.elim (λ h1=>(h.fam f h1).imp_right λ h=>List.mem_append_right _ h) λ h1=>.inr (List.mem_append_left _ h1)⟩
 ·rw[tR]
  show(a.mm.nodes++[_]).length<=_
  rw[List.length_append]
  exact Nat.succ_le_succ hs1
 ·rw[tR]
  have:=(jY (k:=n.kind) (cs:=a.mm.cs) (init:=init)).2
  show(eU _ a.mm.cs init).length<=_
  exact Nat.le_trans this (Nat.succ_le_succ hs2)
end
end
section
section
variable{t:dL}{i m p v:Int}{n:Nat}
end
end
section
section
variable{w:World}{L:List aP}{cs:List Int}{gen:Int}{pn pc:Option Addr}{cn cc:Nat}
end
end
section
section
variable{H:ByteArray->Nat}{Q:Rs->Kw->Prop}{σ:Kw}
end
abbrev Xv(t:dL)(i m n:Int):Tr:=jT t i m n λ ok=>.done (kF 0 ok)
section
variable{H:ByteArray->Nat}{σ:Kw}{t:dL}{i:Int}
end
section
variable{s:Mm}{t:dL}{i m n c pc:Int}{K:Int->Tr}
theorem j5{k:Int->Tr}:D3 (.load c k,s)=Ct.gX (k (aW s.cs c)) s:=rfl
theorem xg{o:Int}{k:Bool->Tr}:D3 (.jE c o n k,s)=Ct.gX (k (Mb s.cs c o)) ⟨s.nodes,dE s.cs c o n,s.gen⟩:=rfl
theorem Ei{cs:List Int}{c o:Int}(h1:1<=c)(h2:c<=cs.length)(h:aW cs c=o):Mb cs c o=true/\fZ cs c o:=by
 have hc:fZ cs c o:=⟨h1,h2,by unfold aW at h;rwa [if_pos ⟨h1,h2⟩] at h⟩
 exact⟨(W2 (r:=true) ⟨λ _=>hc,λ _=>rfl⟩).symm,hc⟩
theorem mx(hn:n<=s.nodes.length)(hi:i<=s.nodes.length)(hp:(aS s.nodes n).prev=pc)(h1:1<=pc)(h2:pc<=s.cs.length)(hv:aW s.cs pc=m):∃s',lG (Ct.gX (jP i n m false K) s) 3=Ct.gX (K m) s'/\(lG (Ct.gX (jP i n m false K) s) 2).1.live=true/\s'=⟨s.nodes++[cK (oN m) s.cs.length],dE (dE s.cs pc m ((s.nodes.length+1:Nat):Int)) (aS s.nodes i).main n m,s.gen⟩:=by
 obtain⟨eb,hc⟩:=Ei h1 h2 hv
 obtain⟨f,hf⟩:∃f:Int,f=((s.nodes.length+1:Nat):Int):=⟨_,rfl⟩
 obtain⟨N,hN⟩:∃N:List Nv,N=s.nodes++[cK (oN m) s.cs.length]:=⟨_,rfl⟩
 have hnn:aS N n=aS s.nodes n:=by rw[hN];exact iG hn
 have hni:aS N i=aS s.nodes i:=by rw[hN];exact iG hi
 have hnf:(aS N f).bJ=m:=by
  unfold aS
  rw[hf,hN,if_pos ⟨by omega,by simp⟩,iM,show(((s.nodes.length+1:Nat):Int)-1).toNat=s.nodes.length by omega]
  simp
  rfl
 have e1:lG (Ct.gX (jP i n m false K) s) 1=(.load (aS N n).prev λ p=>if p=0 then K n else I3 i n p K,⟨N,dE s.cs (aS s.nodes n).prev m f,s.gen⟩):=by rw[hN,hf];rfl
 have e2:lG (Ct.gX (jP i n m false K) s) 2=(.jE (aS N i).main n m λ _=>.node f λ np=>K np.bJ,⟨N,dE s.cs pc m f,s.gen⟩):=by
  show D3 (lG _ 1)=_
  rw[e1,hnn,hp,j5]
  dsimp only
  rw[fY hc,if_pos rfl,if_neg (by omega)]
  show(Tr.jE (aS N i).main n (aS N f).bJ λ _=>.node f λ np=>K np.bJ,(⟨N,dE s.cs pc m f,s.gen⟩:Mm))=_
  rw[hnf]
 refine⟨⟨N,dE (dE s.cs pc m f) (aS N i).main n m,s.gen⟩,?_,by rw[e2];rfl,by rw[hni,hN,hf]⟩
 show D3 (lG _ 2)=_
 rw[e2,xg]
 show Ct.gX (K (aS N f).bJ) _=_
 rw[hnf]
end
end
section
theorem Y1(N:List Nv)(v:Nv):aS (N++[v]) ((N.length+1:Nat):Int)=v:=by
 unfold aS
 rw[if_pos ⟨by omega,by simp⟩,iM,show(((N.length+1:Nat):Int)-1).toNat=N.length by omega]
 simp
theorem Tz(cs:List Int)(m:Int):aW (cs++[m]) ((cs.length+1:Nat):Int)=m:=by
 unfold aW
 rw[if_pos ⟨by omega,by simp⟩,iM,show(((cs.length+1:Nat):Int)-1).toNat=cs.length by omega]
 simp
section
variable{H:ByteArray->Nat}{σ:Kw}{t:dL}{i m:Int}
end
end
section
structure Ew(t:dL)(i m n:Int)(s:Mm):Prop where
 hn:n<=s.nodes.length
 hi:i<=s.nodes.length
 hm:m<=s.nodes.length
 m0:m≠0
 mn:m≠n
 c1:1<=(aS s.nodes i).main
 c2:(aS s.nodes i).main<=s.cs.length
 cv:aW s.cs (aS s.nodes i).main=m
 p1:1<=(aS s.nodes n).prev
 p2:(aS s.nodes n).prev<=s.cs.length
 pv:aW s.cs (aS s.nodes n).prev=m
 pc:(aS s.nodes n).prev≠(aS s.nodes i).main
 km:bQ (aS s.nodes m)
 qm:aW s.cs (aS s.nodes m).prev=0
 rc:t.ro=false->t.root≠(aS s.nodes i).main/\(aS s.nodes (aW s.cs t.root)).kind=2
section
variable{s M:Mm}{t:dL}{i m n n0 n1:Int}
theorem Ew.jE(h:Ew t i m n s):Mb s.cs (aS s.nodes i).main m=true/\fZ s.cs (aS s.nodes i).main m:=Ei h.c1 h.c2 h.cv
def I0(s:Mm)(i m n:Int):List Int:=dE s.cs (aS s.nodes i).main m n
theorem Ew.at1(h:Ew t i m n s)(x:Int):aW (I0 s i m n) x=if x=(aS s.nodes i).main then n else aW s.cs x:=fY h.jE.2 x
theorem Ah:(I0 s i m n).length=s.cs.length:=fI
def j2(n:Int):Int->Tr:=λ v=>.done (kF 0 (v==n))
theorem Ew.e1(h:Ew t i m n s):lG (Ct.gX (Xv t i m n) s) 1=(.load (aS s.nodes n).prev λ p=>if p=0 then j2 n n else .node p λ np=>if bQ np then(if t.ro=true then jP i n p false (j2 n) else C4 t λ r=>.node r λ nr=>.node i λ ni=>jP i n p (nr.gen==ni.gen) (j2 n)) else I3 i n p (j2 n),⟨s.nodes,I0 s i m n,s.gen⟩):=by
 have e:lG (Ct.gX (Xv t i m n) s) 1=Ct.gX (if Mb s.cs (aS s.nodes i).main m=true then pJ t i n (j2 n) else .done (kF 0 false)) ⟨s.nodes,I0 s i m n,s.gen⟩:=rfl
 rw[e,h.jE.1,if_pos rfl]
 rfl
theorem Ew.e2(h:Ew t i m n s):lG (Ct.gX (Xv t i m n) s) 2=Ct.gX (if t.ro=true then jP i n m false (j2 n) else C4 t λ r=>.node r λ nr=>.node i λ ni=>jP i n m (nr.gen==ni.gen) (j2 n)) ⟨s.nodes,I0 s i m n,s.gen⟩:=by
 show D3 (lG _ 1)=_
 rw[h.e1,j5]
 dsimp only
 rw[h.at1,if_neg h.pc,h.pv,if_neg h.m0]
 show Ct.gX (if bQ (aS s.nodes m) then _ else _) _=_
 rw[if_pos h.km]
theorem Ew.e3(h:Ew t i m n s)(hro:t.ro=false):lG (Ct.gX (Xv t i m n) s) 3=Ct.gX (jP i n m ((aS s.nodes (aW s.cs t.root)).gen==(aS s.nodes i).gen) (j2 n)) ⟨s.nodes,I0 s i m n,s.gen⟩/\(lG (Ct.gX (Xv t i m n) s) 2).2=⟨s.nodes,I0 s i m n,s.gen⟩:=by
 have e2:=h.e2
 rw[hro,if_neg (by decide)] at e2
 refine⟨?_,by rw[e2];rfl⟩
 show D3 (lG _ 2)=_
 rw[e2]
 show Ct.gX (if(aS s.nodes (aW (I0 s i m n) t.root)).kind=2 then(Tr.node (aW (I0 s i m n) t.root) λ nr=>.node i λ ni=>jP i n m (nr.gen==ni.gen) (j2 n)) else _) _=_
 rw[h.at1,if_neg (h.rc hro).1,if_pos (h.rc hro).2]
 rfl
theorem Ew.ok2(h:Ew t i m n s):fZ (I0 s i m n) (aS s.nodes n).prev m:=(Ei h.p1 (by rw[Ah];exact h.p2) (by rw[h.at1,if_neg h.pc];exact h.pv)).2
structure Wp(i m:Int)(s M:Mm):Prop where
 nodes:∃v,M.nodes=s.nodes++[v]
 main:aW M.cs (aS s.nodes i).main=m
 prev:aW M.cs (aS s.nodes m).prev=0
def Cy(s:Mm)(i m n:Int):Mm:=⟨s.nodes++[cK (oN m) s.cs.length],dE (dE (I0 s i m n) (aS s.nodes n).prev m ((s.nodes.length+1:Nat):Int)) (aS s.nodes i).main n m,s.gen⟩
theorem Ew.aBh(h:Ew t i m n s):Wp i m s (Cy s i m n):=by
 have hat:∀x,aW (dE (I0 s i m n) (aS s.nodes n).prev m ((s.nodes.length+1:Nat):Int)) x=if x=(aS s.nodes n).prev then((s.nodes.length+1:Nat):Int) else aW (I0 s i m n) x:=λ x=>fY h.ok2 x
 have hok:fZ (dE (I0 s i m n) (aS s.nodes n).prev m ((s.nodes.length+1:Nat):Int)) (aS s.nodes i).main n:=(Ei h.c1 (by rw[fI,Ah];exact h.c2) (by rw[hat,if_neg (Ne.symm h.pc),h.at1,if_pos rfl])).2
 refine⟨⟨_,rfl⟩,(fY hok _).trans (if_pos rfl),?_⟩
 have h1:(aS s.nodes m).prev≠(aS s.nodes i).main:=λ e=>by have:=h.qm;rw[e,h.cv] at this;exact h.m0 this
 have h2:(aS s.nodes m).prev≠(aS s.nodes n).prev:=λ e=>by have:=h.qm;rw[e,h.pv] at this;exact h.m0 this
 show aW (dE _ _ _ _) _=0
 rw[fY hok,if_neg h1,hat,if_neg h2,h.at1,if_neg h1]
 exact h.qm
theorem Ew.aAN(h:Ew t i m n s)(hg:t.ro=false->(aS s.nodes (aW s.cs t.root)).gen≠(aS s.nodes i).gen){k:Nat}(hk:6<=k):lG (Ct.gX (Xv t i m n) s) k=(.done (kF 0 false),Cy s i m n):=by
 have hK:∀M:Mm,Ct.gX (j2 n m) M=(.done (kF 0 false),M):=λ M=>by
  show(Tr.done (kF 0 (m==n)),M)=_
  rw[show(m==n)=false from beq_eq_false_iff_ne.2 h.mn]
 obtain⟨s',h3,_,h5⟩:=mx (i:=i) (n:=n) (m:=m) (s:=⟨s.nodes,I0 s i m n,s.gen⟩) (K:=j2 n) h.hn h.hi rfl h.p1 (by show _<=(((I0 s i m n).length:Nat):Int);rw[Ah];exact h.p2) (by show aW (I0 s i m n) _=m;rw[h.at1,if_neg h.pc];exact h.pv)
 have hl:s'=Cy s i m n:=by
  rw[h5]
  show(⟨s.nodes++[cK (oN m) (I0 s i m n).length],_,_⟩:Mm)=_
  rw[Ah]
  rfl
 subst hl
 have hj:∃j,j<=6/\lG (Ct.gX (Xv t i m n) s) j=(.done (kF 0 false),Cy s i m n):=by
  cases hro:t.ro with
  | true =>
   have e2:=h.e2
   rw[hro,if_pos rfl] at e2
   rw[<- e2,<- Mh,hK] at h3
   exact⟨5,by decide,h3⟩
  | false =>
   obtain⟨e3,_⟩:=h.e3 hro
   rw[show((aS s.nodes (aW s.cs t.root)).gen==(aS s.nodes i).gen)=false from beq_eq_false_iff_ne.2 (hg hro)] at e3
   rw[<- e3,<- Mh,hK] at h3
   exact⟨6,by decide,h3⟩
 obtain⟨j,hj6,e⟩:=hj
 exact(Jn (by rw[e];rfl) (by omega)).1.trans e
end
end
section
def kG(kind:Int)(t:dL)(a b n:Int):Cl:=⟨kind,t,a,b,n,0,0,0,⟨#[]⟩,0,0,0,false⟩
section
variable{ba k B:Nat}{t:dL}{a:AS}{G A:Fr}{D:List Nat}{w:World}{i bJ nw:Int}
theorem Js(t:dL)(i m n:Int){k:Nat}(h:k<1073741824):bU (Xv t i m n) k 64:=tI (kG 2 t i m n) 0 h
theorem ag(ht:t.root<=9223372036854775807)(hi:i<=a.mm.nodes.length)(hnn:nw<=a.mm.nodes.length)(ha:AK a G B)(hB:B<=90000000000)(hA:∀f∈aM a.L,f∈A)(hs:SF w D [(ba,gH a)] A [] (gK a) w) :
  Calls Tryz.prog 28 #[.iface 42 (.pointer (some ⟨ba,0,none⟩)),.agg ⟨[.int .i64 t.root,.bool t.ro]⟩,.int .i64 i,.int .i64 bJ,.int .i64 nw] w λ e w'=>∃x:Nat×TY,e=.returned (.pointer (some ⟨x.1,0,none⟩))/\zb ba (Xv t i bJ nw) a G 1000 (B+64) x.2/\SF w D ([(ba,gH x.2.a)]++[(x.1,tO ba x.2.c 0)]) [] x.2.F (gK x.2.a++[]) w' :=
 (Vo (Oh (t:=t) (i:=i) (bJ:=bJ) (nw:=nw) (B:=[]) (n:=1000) (m:=64) ht hi hnn (Js _ _ _ _ (by decide)) ha.ok (ha.small (by omega)) hA (λ x hx=>nomatch hx) hs)).mono λ e w' ⟨x,e1,h,hw⟩=>⟨(x.1,⟨x.2.1,x.2.2.1,x.2.2.2,0⟩),e1,q7 (Js _ _ _ _ (by decide)) ha h,hw⟩
end
end
section
section
variable{H:ByteArray->Nat}{M s:Mm}{ts:List dL}{σ:Kw}{t:dL}{i m n:Int}{u:Nv}
theorem QS.main(q:QS H M ts σ)(hi:(aS M.nodes i).kind=2):1<=(aS M.nodes i).main/\(aS M.nodes i).main<=M.cs.length/\bQ (aS M.nodes (aW M.cs (aS M.nodes i).main))/\aW M.cs (aS M.nodes (aW M.cs (aS M.nodes i).main)).prev=0:=by
 have e:=q.mm
 subst e
 have h1:=q.inv.dO hi
 exact⟨h1.1,h1.2.1,Tj q.inv hi,q.st i hi⟩
theorem QS.root(q:QS H M ts σ)(ht:t∈ts):1<=t.root/\t.root<=M.cs.length/\(aS M.nodes (aW M.cs t.root)).kind=2:=by
 have e:=q.mm
 subst e
 have hT:=q.ts t ht
 refine⟨hT.1,hT.2.1,?_⟩
 cases hro:t.ro with
 | true=>exact(hT.roI q.inv hro).1
 | false=>exact q.rt _ hT.1 hT.2.1 (hT.rw hro)
theorem QS.aAz(q:QS H M ts σ)(ht:t∈ts)(hi:(aS M.nodes i).kind=2):t.root≠(aS M.nodes i).main:=λ e=>by
 have em:=q.mm
 subst em
 have hT:=q.ts t ht
 have h1:=(q.inv.dO hi).2.2
 have h2:=hT.2.2
 rw[e,show σ.ct (aS σ.mm.nodes i).main=.main i from h1] at h2
 unfold ctR at h2
 split at h2<;>cases h2
theorem aAf(q:QS H M ts σ)(ht:t∈ts)(hi:(aS M.nodes i).kind=2)(hm:aW M.cs (aS M.nodes i).main=m)(e1:∃N,s.nodes=M.nodes++N)(e2:∃C,s.cs=M.cs++C)
  (hn:n<=s.nodes.length) (hmn:(M.nodes.length:Int)<n) (p1:(M.cs.length:Int)<(aS s.nodes n).prev) (p2:(aS s.nodes n).prev<=s.cs.length) (pv:aW s.cs (aS s.nodes n).prev=m):Ew t i m n s:=by
 obtain⟨N,e1⟩:=e1
 obtain⟨C,e2⟩:=e2
 have hir:=dJ (N:=M.nodes) (i:=i) (by rw[hi];decide)
 obtain⟨c1,c2,hk,hp⟩:=q.main hi
 rw[hm] at hk hp
 have hmr:=gP hk
 obtain⟨r1,r2,r3⟩:=q.root ht
 have hl1:s.nodes.length=M.nodes.length+N.length:=by rw[e1,List.length_append]
 have hl2:s.cs.length=M.cs.length+C.length:=by rw[e2,List.length_append]
 have ni:aS s.nodes i=aS M.nodes i:=by rw[e1];exact iG hir.2
 have nm:aS s.nodes m=aS M.nodes m:=by rw[e1];exact iG hmr.2
 have ce:∀x:Int,x<=M.cs.length->aW s.cs x=aW M.cs x:=λ x hx=>by rw[e2];exact nQ hx
 have hpb:(aS M.nodes m).prev<=M.cs.length:=by
  have e:=q.mm
  subst e
  exact(q.inv.jI hk).2.1
 have hrb:aW M.cs t.root<=M.nodes.length:=(dJ (N:=M.nodes) (i:=aW M.cs t.root) (by rw[r3];decide)).2
 refine⟨hn,by omega,by omega,by omega,by omega,by rw[ni];exact c1,by rw[ni];omega,by rw[ni,ce _ c2];exact hm,by omega,p2,pv,by rw[ni];omega,by rw[nm];exact hk,by rw[nm,ce _ hpb];exact hp,λ hro=>⟨by rw[ni];exact q.aAz ht hi,?_⟩⟩
 rw[ce _ r2,e1,iG hrb]
 exact r3
theorem Jv(hu:bQ u):(M.push u m).nodes=M.nodes++[cK u M.cs.length]/\(M.push u m).cs=M.cs++[m]/\(cK u M.cs.length).prev=((M.cs.length+1:Nat):Int):=by
 have hk:u.kind=3∨u.kind=5∨u.kind=6:=hu
 refine⟨rfl,?_,if_pos hk⟩
 show eU _ _ _=_
 unfold eU
 exact if_pos (by omega)
theorem uc(q:QS H M ts σ)(ht:t∈ts)(hi:(aS M.nodes i).kind=2)(hm:aW M.cs (aS M.nodes i).main=m)(hu:bQ u):Ew t i m ((M.nodes.length+1:Nat):Int) (M.push u m):=by
 obtain⟨e1,e2,e3⟩:=Jv (M:=M) (m:=m) hu
 have hl1:(M.push u m).nodes.length=M.nodes.length+1:=by rw[e1];simp
 have hl2:(M.push u m).cs.length=M.cs.length+1:=by rw[e2];simp
 have en:aS (M.push u m).nodes ((M.nodes.length+1:Nat):Int)=cK u M.cs.length:=by rw[e1];exact Y1 _ _
 exact aAf q ht hi hm ⟨_,e1⟩ ⟨_,e2⟩ (by omega) (by omega) (by rw[en,e3];omega) (by rw[en,e3];omega) (by rw[en,e3,e2];exact Tz _ _)
theorem QS.body(q:QS H M ts σ)(hb:fV M.nodes M.cs i=some m):(aS M.nodes i).kind=2/\aW M.cs (aS M.nodes i).main=m:=by
 have hi:=(Bq hb).1
 refine⟨hi,?_⟩
 have hp:mK M.nodes M.cs i=0:=(q.main hi).2.2.2
 unfold fV at hb
 split at hb
 ·exact Option.some.inj hb
 ·cases hb
theorem QS.kC(q:QS H M ts σ)(ht:t∈ts){r:Int}(h:kC M.nodes M.cs t.root=some r):aW M.cs t.root=r:=by
 have h2:=(q.root ht).2.2
 have e:rJ M.nodes M.cs t.root=aW M.cs t.root:=by
  unfold rJ
  rw[if_neg (by rw[h2];decide)]
 unfold Go.Ct.kC at h
 rw[e,if_pos h2] at h
 exact Option.some.inj h
end
end
section
theorem R5{u:Nv}(hk:bQ u){c:Nat}(h:cA u.nd u.xs u.ys):cA (cK u c).nd u.xs u.ys:=by
 obtain⟨h1,h2,h3,h4,h5⟩:=h
 refine⟨?_,?_,?_,?_,h5⟩
 ·rcases hk with k|k|k<;>simp[rQ,Nd.own,Nd.jV,Nd.iV,cK,Nv.nd,k,Nd.zero] at h1 ⊢ <;> simp_all
 ·show 0<=(if u.kind=2 then((c+1:Nat):Int) else 0)
  split<;>omega
 ·show 0<=(if u.kind=3∨u.kind=5∨u.kind=6 then((c+1:Nat):Int) else 0)
  split<;>omega
 ·show 0<=(if u.kind=8 then((c+1:Nat):Int) else 0)
  split<;>omega
theorem Mz{v:Int}{N N':Nat}(h:Cn v N)(hN:N<=N'):Cn v N':=⟨h.1,by have:=h.2;omega⟩
theorem Y0{u:Nv}(hk:bQ u){c N N':Nat}{gen:Int}(hN:N<=N')(h:lO gen N u.dv):lO gen N' (cK u c).dv :=
 ⟨R5 hk h.1,h.2.1,λ i hi=>Mz (h.2.2.1 i hi) hN,Mz h.2.2.2.1 hN,Mz h.2.2.2.2.1 hN,Mz h.2.2.2.2.2 hN⟩
section
variable{H:ByteArray->Nat}{M s:Mm}{ts:List dL}{σ:Kw}{t:dL}{i m n:Int}
theorem Qw(q:QS H M ts σ)(hm:bQ (aS M.nodes m)):dY (M.push (aS M.nodes m) m).nodes (M.push (aS M.nodes m) m).cs M.gen:=by
 have e:=q.mm
 subst e
 have hr:=gP hm
 have hp:=q.inv.prop
 have h1:lO σ.mm.gen σ.len (σ.nd m).dv:=by
  have hn:=hp.nodes (m-1).toNat (by rw[List.length_map];omega)
  have e1:(σ.mm.nodes.map Nv.dv).getD (m-1).toNat aP.zero=(σ.nd m).dv:=by
   have e2:σ.nd m=σ.mm.nodes.getD (m-1).toNat Nv.zero:=if_pos hr
   rw[e2,iM,iM,List.getElem?_map,List.getElem?_eq_getElem (by omega)]
   rfl
  rw[e1,List.length_map] at hn
  exact hn
 exact dY.push hp (Y0 hm (Nat.le_succ _) h1) ⟨by omega,hr.2⟩
theorem Ew.proper(h:Ew t i m n s)(hp:dY s.nodes s.cs s.gen)(h0:0<=n)(hm1:1<=m):dY (Cy s i m n).nodes (Cy s i m n).cs s.gen:=by
 have h1:dY s.nodes (I0 s i m n) s.gen:=dY.jE hp h0 h.hn
 have h2:=h1.push (n:=oN m) (init:=0) (W1 hp.gen0 hm1 (by have:=h.hm;omega)) ⟨Int.le_refl _,bK _⟩
 rw[show eU (oN m).kind (I0 s i m n) 0=I0 s i m n from if_neg (by show ¬((7:Int)=2∨(7:Int)=3∨(7:Int)=5∨(7:Int)=6∨(7:Int)=8);decide),Ah] at h2
 have h3:=dY.jE (c:=(aS s.nodes n).prev) (o:=m) (v:=((s.nodes.length+1:Nat):Int)) h2 (bK _) (by rw[List.length_append];exact Int.le_refl _)
 exact dY.jE (c:=(aS s.nodes i).main) (o:=n) (v:=m) h3 (by omega) (by show m<=((s.nodes++[cK (oN m) s.cs.length]).length:Int);rw[List.length_append];have:=h.hm;show m<=((s.nodes.length+1:Nat):Int);omega)
theorem Wp.body{M:Mm}(h:Ew t i m n s)(l:Wp i m s M)(hk:(aS s.nodes i).kind=2):fV M.nodes M.cs i=some m:=by
 obtain⟨v,e⟩:=l.nodes
 have ni:aS M.nodes i=aS s.nodes i:=by rw[e];exact iG h.hi
 have nm:aS M.nodes m=aS s.nodes m:=by rw[e];exact iG h.hm
 have e1:sM M.nodes M.cs i=m:=by unfold sM;rw[ni];exact l.main
 have e2:mK M.nodes M.cs i=0:=by unfold mK;rw[e1,nm];exact l.prev
 unfold fV
 rw[e1,e2,ni,nm,if_pos ⟨hk,h.km⟩,if_pos rfl]
end
end
end Go.Proofs.YtbajmaoegmbfgaaGreat
