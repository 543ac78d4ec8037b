/- RootReads: the walk. -/
import Derived.Test.YtbajmaoegmbfgaaGreatGRt3
import Derived.Test.YtbajmaoegmbfgaaGreatGLe1
import Derived.Test.YtbajmaoegmbfgaaGreatGIxg
import Derived.Test.YtbajmaoegmbfgaaGreatGWo7
import Derived.Test.YtbajmaoegmbfgaaGreatGRn1
import Derived.Test.YtbajmaoegmbfgaaGreatGTt2
import Derived.Test.YtbajmaoegmbfgaaGreatGKw5
import Derived.Test.YtbajmaoegmbfgaaGreatGGc1
import Derived.Test.YtbajmaoegmbfgaaGreatGQw1

set_option linter.unusedSimpArgs false
set_option linter.unusedVariables false
namespace Go.Proofs.YtbajmaoegmbfgaaGreat
section
open Go Go.RowKit Go.Ct
end

/- The laws of root: a swap begins, on the arena and on the memory. -/
end Go.Proofs.YtbajmaoegmbfgaaGreat
namespace Go.Ct
section
open Go Go.RowKit
end
end Go.Ct
namespace Go.Proofs.YtbajmaoegmbfgaaGreat
section
open Go Go.RowKit Go.Ct
theorem Vg{x:XS}(h:x.Ok):Vm x.L:=λ v hv=>by
 have hb:=h.nd v hv
 have h1:=hb.main
 have h2:=hb.prev
 have h3:=hb.status
 have h4:=h.lc
 have e1:v.c.main=v.nd.main:=rfl
 have e2:v.c.prev=v.nd.prev:=rfl
 have e3:v.c.status=v.nd.status:=rfl
 exact⟨hb.bm,by omega,by omega,by omega⟩
structure SW where
 a1:AS
 z1:XS
 k:Cl
 tb:Nat
 c:Cd
 F:Fr
 a:AS
 bx:Nat
 x:XS
 N:List aU
 dn:Bool
 rs:Rs
end

/- A place of a world's trie. -/
section
open Go Go.RowKit Go.Ct
end

/- The laws of gcas: the sanity check. -/
section
open Go Go.RowKit Go.Ct
end

/- Worlds at rest: the generation of a root; what a place is where nothing is pending. -/
section
open Go Go.RowKit Go.Ct
section
variable{L:List aU}{cs:List Int}{gen:Int}{pn pc:Option Addr}{cn cc:Nat}{w:World}
end
theorem Lt(x:Int):Ending.returned (oL [Value.bool (x==x)])=.returned (.bool true):=by rw[beq_self_eq_true];rfl
abbrev zW(W:Wd)(z:XS):Wd:=⟨z,W.ts,W.pt,W.kt,[],none,0⟩
structure ZQ where
 m:Nat
 W:Wd
 a:AS
 t:dM
 p:Pl
end

/- A task among others on one arena: a step, finished or not; a run; its beginning; what it says. -/
section
open Go Go.RowKit Go.Ct
structure TK(ba:Nat)(t:Tr)(c:Cd)(a:AS)(G:Fr)(k:Nat):Prop where
 rp:kR ba t a.mm c a.mm G
 ar:dL t=true
 tm:bR t k 64
structure AK(a:AS)(G:Fr)(B:Nat):Prop where
 ok:a.Ok
 s1:a.mm.nodes.length<=B
 s2:a.mm.cs.length<=B
 fam:∀f∈aL a.L,f.2=[]∨f∈G
section
variable{ba bt n k B:Nat}{t:Tr}{c:Cd}{a a':AS}{G G' A:Fr}{D:List Nat}{w:World}{O:List Ow}
theorem AK.all(h:AK a G B):bJ A G O (aL a.L++G):=bJ.of λ f hf=>(List.mem_append.1 hf).elim (λ h1=>(h.fam f h1).imp_right λ h=>.inr (.inl h)) λ h1=>.inr (.inr (.inl h1))
theorem AK.aBY(h:AK a G B):bJ A G O (aL a.L):=bJ.of λ f hf=>(h.fam f hf).imp_right λ h=>.inr (.inl h)
theorem AK.small(h:AK a G B)(hB:B<=100000000000):a.mm.Small:=⟨by have:=h.s1;omega,by have:=h.s2;omega⟩
theorem TK.dead(h:TK ba t c a G k)(hl:t.live=false):c.a.k=0:=(h.rp.kind h.ar).1.2 hl
theorem TK.done{r:Rs}(h:TK ba (.done r) c a G k):(c.a.k==0)=true/\(if(true:Bool)=true then c.r else Rs.zero)=r:=⟨by rw[h.dead rfl];rfl,by rw[if_pos rfl];exact(h.rp.kind h.ar).2.1 r rfl⟩
theorem TK.zero{ba k:Nat}{t:Tr}{c:Cd}{a:AS}{G:Fr}{r:Rs}(h:TK ba t c a G k)(e:t=.done r):TK ba (.done r) c a G 0:=by
 subst e
 exact⟨h.rp,h.ar,trivial⟩
structure TY where
 c:Cd
 F:Fr
 a:AS
 n:Nat
structure TYS(ba:Nat)(p:Tr×Mm)(a:AS)(G:Fr)(k B n:Nat)(y:TY):Prop where
 tk:TK ba p.1 y.c y.a (y.F++G) k
 mm:y.a.mm=p.2
 ak:AK y.a (y.F++G) B
 le:a.mm.Le y.a.mm
 n:y.n<=n
theorem Js{F:Fr}(h:a.iF a' F)(h2:∀f∈aL a.L,f.2=[]∨f∈G):∀f∈aL a'.L,f.2=[]∨f∈F++G:=λ f hf=>(h.fam f hf).elim .inl λ h=>h.elim (λ h=>(h2 f h).imp_right λ h=>List.mem_append_right _ h) λ h=>.inr (List.mem_append_left _ h)
theorem a7{most:Nat}(h:TK ba t c a G (k+most))(ha:AK a G B)(hB:B+64*most<=100000000000)(hn:n+most<1000000000)(hA1:∀f∈aL a.L,f∈A)(hA2:∀f∈G,f∈A)(hs:SF w D [(bt,tO ba c n),(ba,eS a)] A [] (eX a) w) :
  Calls Tryz.prog 30 #[.pointer (some ⟨bt,0,none⟩),.int .i64 ((most:Nat):Int)] w λ e w'=>∃y:TY,e=.returned (.int .i64 ((uE (t,a.mm) most:Nat):Int))/\TYS ba (nE (t,a.mm) most) a G k (B+64*most) (n+uE (t,a.mm) most) y/\SF w D [(bt,tO ba y.c y.n),(ba,eS y.a)] [] y.F (eX y.a) w':=by
 have hs1:=ha.s1
 have hs2:=ha.s2
 refine(N4 (most:=most) (m:=k+most) h.tm (by omega) h.ar h.rp ha.ok ⟨by omega,by omega⟩ hn hA1 hA2 hs).mono λ e w' ⟨y,e1,h5,hw⟩=>⟨⟨y.1,y.2.1,y.2.2,n+uE (t,a.mm) most⟩,e1,?_,hw⟩
 obtain⟨z0,z1,z2,z3⟩:=Ap (s:=a.mm) h.tm h.ar most (by omega)
 have em:y.2.2.mm=(nE (t,a.mm) most).2:=h5.mm
 exact⟨⟨by show kR ba _ y.2.2.mm _ y.2.2.mm _;rw[em];exact h5.rp,z1,by rw[show k=k+most-most by omega];exact z0⟩,em,⟨h5.ok,by show y.2.2.mm.nodes.length<=_;rw[em];omega,by show y.2.2.mm.cs.length<=_;rw[em];omega,Js h5.gr ha.fam⟩,h5.gr.le,Nat.le_refl _⟩
structure zd(ba:Nat)(T:Tr)(a:AS)(G:Fr)(k B:Nat)(y:TY):Prop where
 tk:TK ba (Ct.jH T a.mm).1 y.c y.a (y.F++G) k
 mm:y.a.mm=(Ct.jH T a.mm).2
 ak:AK y.a (y.F++G) B
 le:a.mm.Le y.a.mm
theorem ny{T:Tr}{y:Nat×Cd×Fr×AS}(hT:bR T k 64)(ha:AK a G B)(h:rS ba (Ct.jH T a.mm) a [] y.2/\dL (Ct.jH T a.mm).1=true):zd ba T a G k (B+64) ⟨y.2.1,y.2.2.1,y.2.2.2,0⟩:=by
 obtain⟨h1,h2⟩:=h
 have h5:=xa.of h1
 obtain⟨z1,z2⟩:=pZ a.mm hT
 have hs1:=ha.s1
 have hs2:=ha.s2
 have em:y.2.2.2.mm=(Ct.jH T a.mm).2:=h5.mm
 exact⟨⟨by show kR ba _ y.2.2.2.mm _ y.2.2.2.mm _;rw[em];exact kR.more h5.rp λ x hx=>by rw[List.append_nil] at hx;exact List.mem_append_left _ hx,h2,lV a.mm hT 64⟩,em,⟨h5.ok,by show y.2.2.2.mm.nodes.length<=_;rw[em];omega,by show y.2.2.2.mm.cs.length<=_;rw[em];omega,Js h5.gr ha.fam⟩,h5.gr.le⟩
theorem AK.al(h:AK a G B){n:Nd}{xs:List Int}{ys:List Pr}{init:Int}(hx:xs.length<=274877906944)(hy:ys.length<=274877906944)(hb:lJ a.mm.nodes.length a.mm.cs.length {n.c xs ys with main:=0,prev:=0,status:=0})(hi:init<=a.mm.nodes.length+1)(X:AX):AK (a.al n xs ys init X) ((lM n xs ys a.cs.length X).fr++G) (B+1):=by
 have hs1:=h.s1
 have hs2:=h.s2
 refine⟨h.ok.al X hx hy hb hi,?_,?_,λ f hf=>((AS.iF.al a n xs ys init X).fam f hf).elim .inl λ h1=>h1.elim (λ h1=>(h.fam f h1).imp_right λ h=>List.mem_append_right _ h) λ h1=>.inr (List.mem_append_left _ h1)⟩
 ·rw[mA]
  show(a.mm.nodes++[_]).length<=_
  rw[List.length_append]
  exact Nat.succ_le_succ hs1
 ·rw[mA]
  have:=(jO (k:=n.kind) (cs:=a.mm.cs) (init:=init)).2
  show(eQ _ a.mm.cs init).length<=_
  exact Nat.le_trans this (Nat.succ_le_succ hs2)
end
end

/- Procedures by how many accesses they make, whatever they find. -/
section
open Go Go.RowKit Go.Ct
section
variable{t:dM}{i m p v:Int}{n:Nat}
end
end

/- The reference: whether a trie has anything that is pending. -/
section
open Go Go.RowKit Go.Ct
section
variable{w:World}{L:List aU}{cs:List Int}{gen:Int}{pn pc:Option Addr}{cn cc:Nat}
end
end

/- gcas: how many accesses a read and a swap make. -/
section
open Go Go.RowKit Go.Ct
section
variable{H:ByteArray->Nat}{Q:Rs->Kw->Prop}{σ:Kw}
end
section
variable{H:ByteArray->Nat}{σ:Kw}{t:dM}{i:Int}
end
section
variable{s:Mm}{t:dM}{i m n c pc:Int}{K:Int->Tr}
theorem Qy{k:Int->Tr}:Cn (.load c k,s)=Ct.jH (k (aQ s.cs c)) s:=rfl
theorem Qu{o:Int}{k:Bool->Tr}:Cn (.iS c o n k,s)=Ct.jH (k (Q5 s.cs c o)) ⟨s.nodes,dZ s.cs c o n,s.gen⟩:=rfl
theorem Md{cs:List Int}{c o:Int}(h1:1<=c)(h2:c<=cs.length)(h:aQ cs c=o):Q5 cs c o=true/\fW cs c o:=by
 have hc:fW cs c o:=⟨h1,h2,by unfold aQ at h;rwa [if_pos ⟨h1,h2⟩] at h⟩
 exact⟨(Uh (r:=true) ⟨λ _=>hc,λ _=>rfl⟩).symm,hc⟩
end
end

/- gcas: a swap of a copy, alone. -/
section
open Go Go.RowKit Go.Ct
theorem Vx(N:List Nv)(v:Nv):bF (N++[v]) ((N.length+1:Nat):Int)=v:=by
 unfold bF
 rw[if_pos ⟨by omega,by simp⟩,jK,show(((N.length+1:Nat):Int)-1).toNat=N.length by omega]
 simp
theorem Sb(cs:List Int)(m:Int):aQ (cs++[m]) ((cs.length+1:Nat):Int)=m:=by
 unfold aQ
 rw[if_pos ⟨by omega,by simp⟩,jK,show(((cs.length+1:Nat):Int)-1).toNat=cs.length by omega]
 simp
section
variable{H:ByteArray->Nat}{σ:Kw}{t:dM}{i m:Int}
end
end

/- gcas where nothing is pending: a swap in the root's generation, step by step; of two one succeeds; a stale one fails. -/
section
open Go Go.RowKit Go.Ct
structure SwH(t:dM)(i m n:Int)(s:Mm):Prop where
 hn:n<=s.nodes.length
 hi:i<=s.nodes.length
 hm:m<=s.nodes.length
 m0:m≠0
 mn:m≠n
 c1:1<=(bF s.nodes i).main
 c2:(bF s.nodes i).main<=s.cs.length
 cv:aQ s.cs (bF s.nodes i).main=m
 p1:1<=(bF s.nodes n).prev
 p2:(bF s.nodes n).prev<=s.cs.length
 pv:aQ s.cs (bF s.nodes n).prev=m
 pc:(bF s.nodes n).prev≠(bF s.nodes i).main
 km:bX (bF s.nodes m)
 qm:aQ s.cs (bF s.nodes m).prev=0
 rc:t.ro=false->t.root≠(bF s.nodes i).main/\(bF s.nodes (aQ s.cs t.root)).kind=2
section
variable{s M:Mm}{t:dM}{i m n n0 n1:Int}
inductive Two(T0 T1:Tr×Mm):Tr->Tr->Mm->Prop where
 | none:Two T0 T1 T0.1 T1.1 T0.2
 | one (k:Nat) (hk:1<=k) (u:Tr) (hu:u=T1.1∨u=.done (iD 0 false)):Two T0 T1 (nE T0 k).1 u (nE T0 k).2
 | two (k:Nat) (hk:1<=k) (u:Tr) (hu:u=T0.1∨u=.done (iD 0 false)):Two T0 T1 u (nE T1 k).1 (nE T1 k).2
end
end

/- Tasks of gcas on an arena with others. -/
section
open Go Go.RowKit Go.Ct
def kG(kind:Int)(t:dM)(a b n:Int):Cl:=⟨kind,t,a,b,n,0,0,0,⟨#[]⟩,0,0,0,false⟩
section
variable{ba k B:Nat}{t:dM}{a:AS}{G A:Fr}{D:List Nat}{w:World}{i aZ nw:Int}
end
end

/- Procedures beside others: what they rely on, what they keep, how many accesses they make. -/
section
open Go Go.RowKit Go.Ct
structure RG where
 S:Type
 I:S->Mm->Prop
 R:S->S->Prop
 G:S->S->Prop
 Q:Rs->S->Prop
section
variable{X:RG}{M:Mm}{q q':X.S}
end
end

/- root where nothing is pending: two RDCSS from the same root and a HELP side by side. -/
section
open Go Go.RowKit Go.Ct
inductive RS where
 | idle
 | dec (b:Bool)
 | yes (b:Bool)
 | new (b:Bool)
section
variable{T T':Option Bool}{q q':RS}
variable{N:List Nv}{L:Nat}{c r m:Int}{d n:Bool->Int}{b:Bool}{k:Nat}{t:dM}{M:Mm}
abbrev qv(t:dM)(r:Int)(d:Int):Tr:=.iS t.root r d λ b=>if b=true then oK t d (.node d λ nd=>.load nd.status λ s=>oD t d s λ _=>.done (iD 0 (s==1))) else .done (iD 0 false)
variable{tx ty tz:Tr}
end
end

/- Tasks of root on an arena with others. -/
section
open Go Go.RowKit Go.Ct
abbrev zq(t:dM)(o e n:Int):Tr:=jB t o e n λ ok=>.done (iD 0 ok)
section
variable{ba k B:Nat}{t:dM}{a:AS}{G A:Fr}{D:List Nat}{w:World}{aZ exp nw:Int}
theorem Ie(t:dM)(o e n:Int){k:Nat}(h:k<1073741824):bR (zq t o e n) k 64:=tQ (kG 4 t o e n) 0 h
theorem da(ht:t.root<=9223372036854775807)(ho:aZ<=a.mm.nodes.length)(he:exp<=a.mm.nodes.length+1)(hnn:nw<=a.mm.nodes.length)(ha:AK a G B)(hB:B<=90000000000)(hA:∀f∈aL a.L,f∈A)(hs:SF w D [(ba,eS a)] A [] (eX a) w) :
  Calls Tryz.prog 48 #[.iface 42 (.pointer (some ⟨ba,0,none⟩)),.agg ⟨[.int .i64 t.root,.bool t.ro]⟩,.int .i64 aZ,.int .i64 exp,.int .i64 nw] w λ e w'=>∃x:Nat×TY,e=.returned (.pointer (some ⟨x.1,0,none⟩))/\zd ba (zq t aZ exp nw) a G 1000 (B+64) x.2/\SF w D ([(ba,eS x.2.a)]++[(x.1,tO ba x.2.c 0)]) [] x.2.F (eX x.2.a++[]) w' :=
 (Vh (Jb (t:=t) (aZ:=aZ) (exp:=exp) (nw:=nw) (B:=[]) (n:=1000) (m:=64) ht ho he hnn (Ie _ _ _ _ (by decide)) ha.ok (ha.small (by omega)) hA (λ x hx=>nomatch hx) hs)).mono λ e w' ⟨x,e1,h,hw⟩=>⟨(x.1,⟨x.2.1,x.2.2.1,x.2.2.2,0⟩),e1,ny (Ie _ _ _ _ (by decide)) ha h,hw⟩
abbrev Xl(g:Int):Nd:={Nd.zero with kind:=2,gen:=g}
theorem aA6(g:Int)(n c:Nat):lJ n c {(Xl g).c [] [] with main:=0,prev:=0,status:=0}:=⟨bH _,bH _,bH _,(λ r hr=>nomatch hr),bH _,bH _,bH _,⟨0,rfl,by decide⟩,⟨0,rfl,by decide⟩⟩
theorem Xt(h0:0<=a.gen)(h1:a.gen<=1000000000000)(hs:SF w D [(ba,eS a)] A [] (eX a) w):Calls Tryz.prog 47 #[.pointer (some ⟨ba,0,none⟩)] w λ e w'=>∃q:Unit,e=.returned (.int .i64 (a.gen+1))/\True/\SF w D [(ba,eS {a with gen:=a.gen+1})] [] [] (eX a) w':=by
 have:=Xo hs
 rw[show up a.gen=a.gen+1 from wrap_i64 (by omega) (by omega)] at this
 exact this
theorem AK.gen(h:AK a G B):AK {a with gen:=a.gen+1} G B:=⟨⟨h.ok.fit,⟨h.ok.mo.nd,h.ok.mo.cs,h.ok.mo.two⟩⟩,h.s1,h.s2,h.fam⟩
end
end

/- gcas in a world at rest: swaps of copies of a main node. -/
section
open Go Go.RowKit Go.Ct
section
variable{H:ByteArray->Nat}{M s:Mm}{ts:List dM}{σ:Kw}{t:dM}{i m n:Int}{u:Nv}
theorem QS.main(q:QS H M ts σ)(hi:(bF M.nodes i).kind=2):1<=(bF M.nodes i).main/\(bF M.nodes i).main<=M.cs.length/\bX (bF M.nodes (aQ M.cs (bF M.nodes i).main))/\aQ M.cs (bF M.nodes (aQ M.cs (bF M.nodes i).main)).prev=0:=by
 have e:=q.mm
 subst e
 have h1:=q.inv.dO hi
 exact⟨h1.1,h1.2.1,Rq q.inv hi,q.st i hi⟩
theorem QS.root(q:QS H M ts σ)(ht:t∈ts):1<=t.root/\t.root<=M.cs.length/\(bF M.nodes (aQ M.cs t.root)).kind=2:=by
 have e:=q.mm
 subst e
 have hT:=q.ts t ht
 refine⟨hT.1,hT.2.1,?_⟩
 cases hro:t.ro with
 | true=>exact(hT.roI q.inv hro).1
 | false=>exact q.rt _ hT.1 hT.2.1 (hT.rw hro)
theorem QS.xg(q:QS H M ts σ)(ht:t∈ts)(hi:(bF M.nodes i).kind=2):t.root≠(bF M.nodes i).main:=λ e=>by
 have em:=q.mm
 subst em
 have hT:=q.ts t ht
 have h1:=(q.inv.dO hi).2.2
 have h2:=hT.2.2
 rw[e,show σ.ct (bF σ.mm.nodes i).main=.main i from h1] at h2
 unfold zr at h2
 split at h2<;>cases h2
theorem QS.body(q:QS H M ts σ)(hb:nI M.nodes M.cs i=some m):(bF M.nodes i).kind=2/\aQ M.cs (bF M.nodes i).main=m:=by
 have hi:=(Xa hb).1
 refine⟨hi,?_⟩
 have hp:nR M.nodes M.cs i=0:=(q.main hi).2.2.2
 unfold nI at hb
 split at hb
 ·exact Option.some.inj hb
 ·cases hb
theorem QS.nT(q:QS H M ts σ)(ht:t∈ts){r:Int}(h:nT M.nodes M.cs t.root=some r):aQ M.cs t.root=r:=by
 have h2:=(q.root ht).2.2
 have e:tV M.nodes M.cs t.root=aQ M.cs t.root:=by
  unfold tV
  rw[if_neg (by rw[h2];decide)]
 unfold Go.Ct.nT at h
 rw[e,if_pos h2] at h
 exact Option.some.inj h
end
end

end Go.Proofs.YtbajmaoegmbfgaaGreat
