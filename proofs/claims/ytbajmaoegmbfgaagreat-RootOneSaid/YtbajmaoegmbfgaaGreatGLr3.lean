/- Merged. -/
import Derived.Test.YtbajmaoegmbfgaaGreatGRt3
import Derived.Test.YtbajmaoegmbfgaaGreatGLe1
import Derived.Test.YtbajmaoegmbfgaaGreatGIxg
import Derived.Test.YtbajmaoegmbfgaaGreatGWo7
import Derived.Test.YtbajmaoegmbfgaaGreatGRn1
import Derived.Test.YtbajmaoegmbfgaaGreatGTt2
import Derived.Test.YtbajmaoegmbfgaaGreatGKw5
import Derived.Test.YtbajmaoegmbfgaaGreatGGc1
set_option linter.unusedSimpArgs false
set_option linter.unusedVariables false
namespace Go.Proofs.YtbajmaoegmbfgaaGreat
open Go Go.RowKit Go.Ct
section
end
end Go.Proofs.YtbajmaoegmbfgaaGreat
namespace Go.Ct
open Go Go.RowKit
section
end
end Go.Ct
namespace Go.Proofs.YtbajmaoegmbfgaaGreat
open Go Go.RowKit Go.Ct
section
theorem V1{x:XS}(h:x.Ok):Xa x.L:=λ v hv=>by
 have hb:=h.nd v hv
 have h1:=hb.main
 have h2:=hb.prev
 have h3:=hb.status
 have h4:=h.lc
 have e1:v.c.main=v.nd.main:=rfl
 have e2:v.c.prev=v.nd.prev:=rfl
 have e3:v.c.status=v.nd.status:=rfl
 exact⟨hb.bm,by omega,by omega,by omega⟩
end
section
end
section
end
section
section
variable{L:List aU}{cs:List Int}{gen:Int}{pn pc:Option Addr}{cn cc:Nat}{w:World}
end
theorem Kq(x:Int):Ending.returned (pB [Value.bool (x==x)])=.returned (.bool true):=by rw[beq_self_eq_true];rfl
abbrev zW(W:Wd)(z:XS):Wd:=⟨z,W.ts,W.pt,W.kt,[],none,0⟩
end
section
structure TK(ba:Nat)(t:Tr)(c:Cd)(a:AS)(G:Fr)(k:Nat):Prop where
 rp:kB ba t a.mm c a.mm G
 ar:cS t=true
 tm:bS t k 64
structure AK(a:AS)(G:Fr)(B:Nat):Prop where
 ok:a.Ok
 s1:a.mm.nodes.length<=B
 s2:a.mm.cs.length<=B
 fam:∀f∈aL a.L,f.2=[]∨f∈G
section
variable{ba bt n k B:Nat}{t:Tr}{c:Cd}{a a':AS}{G G' A:Fr}{D:List Nat}{w:World}{O:List Ow}
theorem AK.all(h:AK a G B):bI A G O (aL a.L++G):=bI.of λ f hf=>(List.mem_append.1 hf).elim (λ h1=>(h.fam f h1).imp_right λ h=>.inr (.inl h)) λ h1=>.inr (.inr (.inl h1))
theorem AK.n6(h:AK a G B):bI A G O (aL a.L):=bI.of λ f hf=>(h.fam f hf).imp_right λ h=>.inr (.inl h)
theorem AK.mono{B':Nat}(h:AK a G B)(hB:B<=B'):AK a G B':=⟨h.ok,by have:=h.s1;omega,by have:=h.s2;omega,h.fam⟩
theorem AK.small(h:AK a G B)(hB:B<=100000000000):a.mm.Small:=⟨by have:=h.s1;omega,by have:=h.s2;omega⟩
theorem TK.to(h:TK ba t c a G k)(l:a.mm.Le a'.mm)(hG:∀x∈G,x∈G'):TK ba t c a' G' k:=⟨kB.more (h.rp.le h.ar l) hG,h.ar,h.tm⟩
theorem TK.dead(h:TK ba t c a G k)(hl:t.live=false):c.a.k=0:=(h.rp.kind h.ar).1.2 hl
theorem TK.done{r:Rs}(h:TK ba (.done r) c a G k):(c.a.k==0)=true/\(if(true:Bool)=true then c.r else Rs.zero)=r:=⟨by rw[h.dead rfl];rfl,by rw[if_pos rfl];exact(h.rp.kind h.ar).2.1 r rfl⟩
theorem TK.zero{ba k:Nat}{t:Tr}{c:Cd}{a:AS}{G:Fr}{r:Rs}(h:TK ba t c a G k)(e:t=.done r):TK ba (.done r) c a G 0:=by
 subst e
 exact⟨h.rp,h.ar,trivial⟩
theorem W9(hk:c.a.k=0)(hs:SF w D [(bt,tO ba c n),(ba,dL a)] A [] (dZ a) w) :
  Calls Tryz.prog 37 #[.pointer (some ⟨bt,0,none⟩)] w λ e w'=>e=.returned (.tuple #[])/\SF w D [(bt,tO ba c n),(ba,dL a)] [] [] (dZ a) w':=by
 refine enter Tryz.func37 Tryz.ntmps37 rfl rfl hs ?_
 simp only[cE]
 refine lI ?_;refine aM (cV (hc:=λ w1 hw=>wD (hw.st.at cR))) (λ x3=>?_);refine aA ?_
 (refine eG 4 (λ g4=>?_) (λ g4=>?_)<;>(try (exfalso;omega))<;>(refine aI ?_))
 (refine aI ?_);refine J6 ?_;refine cA ?_;refine aG ?_
 refine bE (λ c9=>?_) (λ c9=>?_)
 ·try (exfalso;omega)
  refine bB Tryz.results37 (λ w hw=>?_)
  exact⟨rfl,hw.ret (List.Sublist.refl _) aV.nil (List.Sublist.refl _)⟩
 ·exact nv c9
structure TY where
 c:Cd
 F:Fr
 a:AS
 n:Nat
structure nj(ba:Nat)(p:Tr×Mm)(a:AS)(G:Fr)(k B n:Nat)(y:TY):Prop where
 tk:TK ba p.1 y.c y.a (y.F++G) k
 mm:y.a.mm=p.2
 ak:AK y.a (y.F++G) B
 le:a.mm.Le y.a.mm
 n:y.n<=n
theorem B3{F:Fr}(h:a.gQ a' F)(h2:∀f∈aL a.L,f.2=[]∨f∈G):∀f∈aL a'.L,f.2=[]∨f∈F++G:=λ f hf=>(h.fam f hf).elim .inl λ h=>h.elim (λ h=>(h2 f h).imp_right λ h=>List.mem_append_right _ h) λ h=>.inr (List.mem_append_left _ h)
theorem Bd(h:TK ba t c a G (k+1))(ha:AK a G B)(hB:B<=90000000000)(hn:n<1000000)(hA1:∀f∈aL a.L,f∈A)(hA2:∀f∈G,f∈A)(hs:SF w D [(bt,tO ba c n),(ba,dL a)] A [] (dZ a) w) :
  Calls Tryz.prog 37 #[.pointer (some ⟨bt,0,none⟩)] w λ e w'=>∃y:TY,e=.returned (.tuple #[])/\nj ba (vF (t,a.mm)) a G k (B+64) (n+1) y/\SF w D [(bt,tO ba y.c y.n),(ba,dL y.a)] [] y.F (dZ y.a) w':=by
 cases hl:t.live with
 | true =>
  refine(Jw (i:=k) (m:=64) h.tm h.ar hl h.rp ha.ok (ha.small (by omega)) (by omega) hA1 hA2 hs).mono λ e w' ⟨y,e1,⟨hy,har⟩,hw⟩=>⟨⟨y.1,y.2.1,y.2.2,n+1⟩,e1,?_,hw⟩
  have h5:=wh.of hy
  obtain⟨z1,z2⟩:=Ob a.mm h.tm h.ar
  have hs1:=ha.s1
  have hs2:=ha.s2
  have em:y.2.2.mm=(vF (t,a.mm)).2:=h5.mm
  exact⟨⟨by show kB ba _ y.2.2.mm _ y.2.2.mm _;rw[em];exact h5.rp,har,N3 a.mm h.tm h.ar 64⟩,em,⟨h5.ok,by show y.2.2.mm.nodes.length<=_;rw[em];omega,by show y.2.2.mm.cs.length<=_;rw[em];omega,B3 h5.gr ha.fam⟩,h5.gr.le,Nat.le_refl _⟩
 | false =>
  have e:vF (t,a.mm)=(t,a.mm):=Pc hl
  rw[e]
  refine(W9 (h.dead hl) hs).mono λ e w' ⟨e1,hw⟩=>⟨⟨c,[],a,n⟩,e1,⟨⟨h.rp,h.ar,?_⟩,rfl,ha.mono (by omega),Mm.Le.refl _,Nat.le_succ _⟩,hw⟩
  cases t with
  | done r=>trivial
  | _=>cases hl
theorem Af{most:Nat}(h:TK ba t c a G (k+most))(ha:AK a G B)(hB:B+64*most<=100000000000)(hn:n+most<1000000000)(hA1:∀f∈aL a.L,f∈A)(hA2:∀f∈G,f∈A)(hs:SF w D [(bt,tO ba c n),(ba,dL a)] A [] (dZ a) w) :
  Calls Tryz.prog 30 #[.pointer (some ⟨bt,0,none⟩),.int .i64 ((most:Nat):Int)] w λ e w'=>∃y:TY,e=.returned (.int .i64 ((rH (t,a.mm) most:Nat):Int))/\nj ba (kP (t,a.mm) most) a G k (B+64*most) (n+rH (t,a.mm) most) y/\SF w D [(bt,tO ba y.c y.n),(ba,dL y.a)] [] y.F (dZ y.a) w':=by
 have hs1:=ha.s1
 have hs2:=ha.s2
 refine(Nu (most:=most) (m:=k+most) h.tm (by omega) h.ar h.rp ha.ok ⟨by omega,by omega⟩ hn hA1 hA2 hs).mono λ e w' ⟨y,e1,h5,hw⟩=>⟨⟨y.1,y.2.1,y.2.2,n+rH (t,a.mm) most⟩,e1,?_,hw⟩
 obtain⟨z0,z1,z2,z3⟩:=A2 (s:=a.mm) h.tm h.ar most (by omega)
 have em:y.2.2.mm=(kP (t,a.mm) most).2:=h5.mm
 exact⟨⟨by show kB ba _ y.2.2.mm _ y.2.2.mm _;rw[em];exact h5.rp,z1,by rw[show k=k+most-most by omega];exact z0⟩,em,⟨h5.ok,by show y.2.2.mm.nodes.length<=_;rw[em];omega,by show y.2.2.mm.cs.length<=_;rw[em];omega,B3 h5.gr ha.fam⟩,h5.gr.le,Nat.le_refl _⟩
structure S5(ba:Nat)(T:Tr)(a:AS)(G:Fr)(k B:Nat)(y:TY):Prop where
 tk:TK ba (Ct.gW T a.mm).1 y.c y.a (y.F++G) k
 mm:y.a.mm=(Ct.gW T a.mm).2
 ak:AK y.a (y.F++G) B
 le:a.mm.Le y.a.mm
theorem Uk{T:Tr}{y:Nat×Cd×Fr×AS}(hT:bS T k 64)(ha:AK a G B)(h:qN ba (Ct.gW T a.mm) a [] y.2/\cS (Ct.gW T a.mm).1=true):S5 ba T a G k (B+64) ⟨y.2.1,y.2.2.1,y.2.2.2,0⟩:=by
 obtain⟨h1,h2⟩:=h
 have h5:=wh.of h1
 obtain⟨z1,z2⟩:=pV a.mm hT
 have hs1:=ha.s1
 have hs2:=ha.s2
 have em:y.2.2.2.mm=(Ct.gW T a.mm).2:=h5.mm
 exact⟨⟨by show kB ba _ y.2.2.2.mm _ y.2.2.2.mm _;rw[em];exact kB.more h5.rp λ x hx=>by rw[List.append_nil] at hx;exact List.mem_append_left _ hx,h2,mQ a.mm hT 64⟩,em,⟨h5.ok,by show y.2.2.2.mm.nodes.length<=_;rw[em];omega,by show y.2.2.2.mm.cs.length<=_;rw[em];omega,B3 h5.gr ha.fam⟩,h5.gr.le⟩
theorem AK.al(h:AK a G B){n:Nd}{xs:List Int}{ys:List Pr}{init:Int}(hx:xs.length<=274877906944)(hy:ys.length<=274877906944)(hb:lX a.mm.nodes.length a.mm.cs.length {n.c xs ys with main:=0,prev:=0,status:=0})(hi:init<=a.mm.nodes.length+1)(X:AX):AK (a.al n xs ys init X) ((kZ n xs ys a.cs.length X).fr++G) (B+1):=by
 have hs1:=h.s1
 have hs2:=h.s2
 refine⟨h.ok.al X hx hy hb hi,?_,?_,λ f hf=>((AS.gQ.al a n xs ys init X).fam f hf).elim .inl λ h1=>h1.elim (λ h1=>(h.fam f h1).imp_right λ h=>List.mem_append_right _ h) λ h1=>.inr (List.mem_append_left _ h1)⟩
 ·rw[lA]
  show(a.mm.nodes++[_]).length<=_
  rw[List.length_append]
  exact Nat.succ_le_succ hs1
 ·rw[lA]
  have:=(kA (k:=n.kind) (cs:=a.mm.cs) (init:=init)).2
  show(eU _ a.mm.cs init).length<=_
  exact Nat.le_trans this (Nat.succ_le_succ hs2)
end
end
section
section
variable{t:dO}{i m p v:Int}{n:Nat}
end
end
section
section
variable{w:World}{L:List aU}{cs:List Int}{gen:Int}{pn pc:Option Addr}{cn cc:Nat}
end
end
section
section
variable{H:ByteArray->Nat}{Q:Rs->Kw->Prop}{σ:Kw}
end
section
variable{H:ByteArray->Nat}{σ:Kw}{t:dO}{i:Int}
end
section
variable{s:Mm}{t:dO}{i m n c pc:Int}{K:Int->Tr}
theorem y9{k:Int->Tr}:vF (.load c k,s)=Ct.gW (k (aY s.cs c)) s:=rfl
theorem zj{o:Int}{k:Bool->Tr}:vF (.iQ c o n k,s)=Ct.gW (k (Mr s.cs c o)) ⟨s.nodes,eC s.cs c o n,s.gen⟩:=rfl
theorem Mu{cs:List Int}{c o:Int}(h1:1<=c)(h2:c<=cs.length)(h:aY cs c=o):Mr cs c o=true/\fI cs c o:=by
 have hc:fI cs c o:=⟨h1,h2,by unfold aY at h;rwa [if_pos ⟨h1,h2⟩] at h⟩
 exact⟨(D5 (r:=true) ⟨λ _=>hc,λ _=>rfl⟩).symm,hc⟩
end
end
section
theorem Ym(N:List Nv)(v:Nv):bD (N++[v]) ((N.length+1:Nat):Int)=v:=by
 unfold bD
 rw[if_pos ⟨by omega,by simp⟩,jS,show(((N.length+1:Nat):Int)-1).toNat=N.length by omega]
 simp
theorem Hp(cs:List Int)(m:Int):aY (cs++[m]) ((cs.length+1:Nat):Int)=m:=by
 unfold aY
 rw[if_pos ⟨by omega,by simp⟩,jS,show(((cs.length+1:Nat):Int)-1).toNat=cs.length by omega]
 simp
section
variable{H:ByteArray->Nat}{σ:Kw}{t:dO}{i m:Int}
end
end
section
section
variable{s M:Mm}{t:dO}{i m n n0 n1:Int}
inductive Two(T0 T1:Tr×Mm):Tr->Tr->Mm->Prop where
 | none:Two T0 T1 T0.1 T1.1 T0.2
 | one (k:Nat) (hk:1<=k) (u:Tr) (hu:u=T1.1∨u=.done (eN 0 false)):Two T0 T1 (kP T0 k).1 u (kP T0 k).2
 | two (k:Nat) (hk:1<=k) (u:Tr) (hu:u=T0.1∨u=.done (eN 0 false)):Two T0 T1 u (kP T1 k).1 (kP T1 k).2
end
end
section
def kG(kind:Int)(t:dO)(a b n:Int):Cl:=⟨kind,t,a,b,n,0,0,0,⟨#[]⟩,0,0,0,false⟩
section
variable{ba k B:Nat}{t:dO}{a:AS}{G A:Fr}{D:List Nat}{w:World}{i bA nw:Int}
end
end
section
structure RG where
 S:Type
 I:S->Mm->Prop
 R:S->S->Prop
 G:S->S->Prop
 Q:Rs->S->Prop
def RT(X:RG):Tr->Nat->X.S->Prop
 | .done r,_,q=>∀q',X.R q q'->X.Q r q'
 | .load c k,n,q=>∃m,n=m+1/\∀q' M,X.R q q'->X.I q' M->RT X (k (aY M.cs c)) m q'
 | .iQ c o v k,n,q=>∃m,n=m+1/\∀q' M,X.R q q'->X.I q' M->(fI M.cs c o->∃q2,X.G q' q2/\X.I q2 ⟨M.nodes,eC M.cs c o v,M.gen⟩/\RT X (k true) m q2)/\(¬fI M.cs c o->X.G q' q'/\RT X (k false) m q')
 | .node r k,n,q=>∀M,X.I q M->RT X (k (bD M.nodes r)) n q
 | .alloc _ _ _,_,_=>False
 | .cell _ _,_,_=>False
 | .gen _,_,_=>False
 | .stuck,_,_=>False
section
variable{X:RG}{M:Mm}{q q':X.S}
theorem RT.mono:∀{t:Tr} {n m:Nat} {q:X.S},n<=m->RT X t n q->RT X t m q:=by
 intro t
 induction t with
 | done r=>intro n m q _ h;exact h
 | load c k ih =>
  intro n m q hnm ⟨p,e,h⟩
  exact⟨m-1,by omega,λ q' M hr hi=>ih _ (by omega) (h q' M hr hi)⟩
 | iQ c o v k ih =>
  intro n m q hnm ⟨p,e,h⟩
  refine⟨m-1,by omega,λ q' M hr hi=>⟨λ hc=>?_,λ hc=>⟨((h q' M hr hi).2 hc).1,ih _ (by omega) ((h q' M hr hi).2 hc).2⟩⟩⟩
  obtain⟨q2,a,b,d⟩:=(h q' M hr hi).1 hc
  exact⟨q2,a,b,ih _ (by omega) d⟩
 | node r k ih=>intro n m q hnm h;exact λ M hi=>ih _ hnm (h M hi)
 | alloc n i k ih=>intro n m q _ h;exact h.elim
 | cell i k ih=>intro n m q _ h;exact h.elim
 | gen k ih=>intro n m q _ h;exact h.elim
 | stuck=>intro n m q _ h;exact h.elim
theorem RT.Ns(hR:∀a b c,X.R a b->X.R b c->X.R a c){t:Tr}{n:Nat}(ha:cS t=true)(h:RT X t n q)(hr:X.R q q'):RT X t n q':=by
 cases t with
 | done r=>exact λ q2 h2=>h q2 (hR _ _ _ hr h2)
 | load c k=>obtain⟨m,e,h⟩:=h;exact⟨m,e,λ q2 M h2 hi=>h q2 M (hR _ _ _ hr h2) hi⟩
 | iQ c o v k=>obtain⟨m,e,h⟩:=h;exact⟨m,e,λ q2 M h2 hi=>h q2 M (hR _ _ _ hr h2) hi⟩
 | alloc n i k=>cases ha
 | cell i k=>cases ha
 | gen k=>cases ha
 | node r k=>cases ha
 | stuck=>cases ha
theorem RT.gW:∀{t:Tr} {n:Nat} {q:X.S} {M:Mm},RT X t n q->X.I q M->RT X (Ct.gW t M).1 n q/\(Ct.gW t M).2=M/\cS (Ct.gW t M).1=true:=by
 intro t
 induction t with
 | done r=>intro n q M h _;exact⟨h,rfl,rfl⟩
 | load c k ih=>intro n q M h _;exact⟨h,rfl,rfl⟩
 | iQ c o v k ih=>intro n q M h _;exact⟨h,rfl,rfl⟩
 | node r k ih=>intro n q M h hi;exact ih _ (h M hi) hi
 | alloc n i k ih=>intro n q M h _;exact h.elim
 | cell i k ih=>intro n q M h _;exact h.elim
 | gen k ih=>intro n q M h _;exact h.elim
 | stuck=>intro n q M h _;exact h.elim
theorem RT.step(hr:∀a,X.R a a)(hg:∀a,X.G a a){t:Tr}{n:Nat}(ha:cS t=true)(h:RT X t n q)(hi:X.I q M):∃q2,X.G q q2/\X.I q2 (vF (t,M)).2/\RT X (vF (t,M)).1 (n-1) q2/\cS (vF (t,M)).1=true:=by
 cases t with
 | done r=>exact⟨q,hg q,hi,h,rfl⟩
 | load c k =>
  obtain⟨m,e,h⟩:=h
  obtain⟨h1,h2,h3⟩:=(h q M (hr q) hi).gW hi
  rw[y9,h2]
  exact⟨q,hg q,hi,h1.mono (by omega),h3⟩
 | iQ c o v k =>
  obtain⟨m,e,h⟩:=h
  rw[zj]
  by_cases hc:fI M.cs c o
  ·have eb:Mr M.cs c o=true:=(D5 (r:=true) ⟨λ _=>hc,λ _=>rfl⟩).symm
   obtain⟨q2,hg2,hi2,h⟩:=(h q M (hr q) hi).1 hc
   obtain⟨h1,h2,h3⟩:=h.gW hi2
   rw[eb,h2]
   exact⟨q2,hg2,hi2,h1.mono (by omega),h3⟩
  ·have eb:Mr M.cs c o=false:=(D5 (r:=false) ⟨λ h=>(nomatch h),λ h=>absurd h hc⟩).symm
   have es:(⟨M.nodes,eC M.cs c o v,M.gen⟩:Mm)=M:=by rw[rB hc]
   obtain⟨hg2,h⟩:=(h q M (hr q) hi).2 hc
   obtain⟨h1,h2,h3⟩:=h.gW hi
   rw[eb,es,h2]
   exact⟨q,hg2,hi,h1.mono (by omega),h3⟩
 | alloc n i k=>cases ha
 | cell i k=>cases ha
 | gen k=>cases ha
 | node r k=>cases ha
 | stuck=>cases ha
theorem RT.run(hr:∀a,X.R a a)(hg:∀a,X.G a a)(hgt:∀a b c,X.G a b->X.G b c->X.G a c):∀(k:Nat) {t:Tr} {n:Nat} {q:X.S} {M:Mm},cS t=true->RT X t n q->X.I q M->∃q2,X.G q q2/\X.I q2 (kP (t,M) k).2/\RT X (kP (t,M) k).1 (n-k) q2/\cS (kP (t,M) k).1=true
 | 0,t,n,q,M,ha,h,hi=>⟨q,hg q,hi,h,ha⟩
 | k+1,t,n,q,M,ha,h,hi=>by
  obtain⟨q2,g1,i1,h1,a1⟩:=RT.run hr hg hgt k ha h hi
  obtain⟨q3,g2,i2,h2,a2⟩:=h1.step (M:=(kP (t,M) k).2) hr hg a1 i1
  exact⟨q3,hgt _ _ _ g1 g2,i2,h2.mono (by omega),a2⟩
theorem RT.fin{t:Tr}(ha:cS t=true)(h:RT X t 0 q)(hr:X.R q q):∃r,t=.done r/\X.Q r q:=by
 cases t with
 | done r=>exact⟨r,rfl,h q hr⟩
 | load c k=>obtain⟨m,e,_⟩:=h;exact absurd e (by omega)
 | iQ c o v k=>obtain⟨m,e,_⟩:=h;exact absurd e (by omega)
 | alloc n i k=>cases ha
 | cell i k=>cases ha
 | gen k=>cases ha
 | node r k=>cases ha
 | stuck=>cases ha
end
end
section
inductive RS where
 | idle
 | dec (b:Bool)
 | yes (b:Bool)
 | new (b:Bool)
def RS.own:RS->Option Bool
 | .idle=>none
 | .dec b=>some b
 | .yes b=>some b
 | .new b=>some b
def RS.rk:RS->Nat
 | .idle=>0
 | .dec _=>1
 | .yes _=>2
 | .new _=>3
structure RS.le(q q':RS):Prop where
 rk:q.rk<=q'.rk
 ow:∀b,q.own=some b->q'.own=some b
theorem RS.le.refl(q:RS):q.le q:=⟨Nat.le_refl _,λ _ h=>h⟩
theorem RS.le.trans{a b c:RS}(h:a.le b)(h2:b.le c):a.le c:=⟨Nat.le_trans h.rk h2.rk,λ x hx=>h2.ow x (h.ow x hx)⟩
structure V6(N:List Nv)(L:Nat)(c r m:Int)(d n:Bool->Int):Prop where
 kr:(bD N r).kind=2
 kd:∀b,(bD N (d b)).kind=8
 kn:∀b,(bD N (n b)).kind=2
 dold:∀b,(bD N (d b)).bA=r
 dexp:∀b,(bD N (d b)).exp=m
 dnew:∀b,(bD N (d b)).new=n b
 c1:1<=c
 c2:c<=L
 s1:∀b,1<=(bD N (d b)).status
 s2:∀b,(bD N (d b)).status<=L
 cs:∀b,c≠(bD N (d b)).status
 ss:∀b b',b≠b'->(bD N (d b)).status≠(bD N (d b')).status
 mc:(bD N r).main≠c
 ms:∀b,(bD N r).main≠(bD N (d b)).status
 pc:(bD N m).prev≠c
 ps:∀b,(bD N m).prev≠(bD N (d b)).status
 rn:∀b,r≠n b
def RS.root(r:Int)(d n:Bool->Int):RS->Int
 | .idle=>r
 | .dec b=>d b
 | .yes b=>d b
 | .new b=>n b
def RS.st(b:Bool):RS->Int
 | .idle=>0
 | .dec _=>0
 | .yes b'=>if b'=b then 1 else 0
 | .new b'=>if b'=b then 1 else 0
structure Xz(N:List Nv)(L:Nat)(c r m:Int)(d n:Bool->Int)(q:RS)(M:Mm):Prop where
 nodes:M.nodes=N
 len:M.cs.length=L
 root:aY M.cs c=q.root r d n
 st:∀b,aY M.cs (bD N (d b)).status=q.st b
 main:aY M.cs (bD N r).main=m
 prev:aY M.cs (bD N m).prev=0
def RoR(T:Option Bool)(q q':RS):Prop:=q.le q'/\∀b,q.own=none->q'.own=some b->T≠some b
def nf(T:Option Bool)(q q':RS):Prop:=q.le q'/\∀b,q.own=none->q'.own=some b->T=some b
def RoQ(T:Option Bool)(r:Rs)(q:RS):Prop:=∀b,T=some b->(r=eN 0 true/\q=.new b)∨(r=eN 0 false/\q.own=some (!b))
abbrev yR(N:List Nv)(L:Nat)(c r m:Int)(d n:Bool->Int)(T:Option Bool):RG:=⟨RS,Xz N L c r m d n,RoR T,nf T,RoQ T⟩
section
variable{T T':Option Bool}{q q':RS}
theorem qK(a:RS):RoR T a a:=⟨.refl a,λ b h h2=>by rw[h] at h2;cases h2⟩
theorem sR(a:RS):nf T a a:=⟨.refl a,λ b h h2=>by rw[h] at h2;cases h2⟩
theorem kH(a b c:RS)(h:RoR T a b)(h2:RoR T b c):RoR T a c:=⟨h.1.trans h2.1,λ x ha hc=>by
 cases hb:b.own with
 | none=>exact h2.2 x hb hc
 | some y =>
  have:=h2.1.ow y hb
  rw[hc] at this
  rw[Option.some.inj this]
  exact h.2 y ha hb⟩
theorem Cj(a b c:RS)(h:nf T a b)(h2:nf T b c):nf T a c:=⟨h.1.trans h2.1,λ x ha hc=>by
 cases hb:b.own with
 | none=>exact h2.2 x hb hc
 | some y =>
  have:=h2.1.ow y hb
  rw[hc] at this
  rw[Option.some.inj this]
  exact h.2 y ha hb⟩
theorem nf.p8(h:nf T q q')(hne:T'≠T):RoR T' q q':=⟨h.1,λ b h1 h2 e=>hne (e.trans (h.2 b h1 h2).symm)⟩
variable{N:List Nv}{L:Nat}{c r m:Int}{d n:Bool->Int}{b:Bool}{k:Nat}{t:dO}{M:Mm}
theorem Xz.aA2(h:V6 N L c r m d n)(hi:Xz N L c r m d n q M){o:Int}{q2:RS}(hc:fI M.cs c o)(hs:∀b,q2.st b=q.st b):Xz N L c r m d n q2 ⟨M.nodes,eC M.cs c o (q2.root r d n),M.gen⟩ :=
 ⟨hi.nodes,eZ.trans hi.len,(eR hc _).trans (if_pos rfl),λ b=>by rw[eR hc,if_neg (Ne.symm (h.cs b)),hs];exact hi.st b,by rw[eR hc,if_neg h.mc];exact hi.main,by rw[eR hc,if_neg h.pc];exact hi.prev⟩
theorem Xz.aCv(h:V6 N L c r m d n)(hi:Xz N L c r m d n (.dec b) M){o:Int}(hc:fI M.cs (bD N (d b)).status o):Xz N L c r m d n (.yes b) ⟨M.nodes,eC M.cs (bD N (d b)).status o 1,M.gen⟩ :=
 ⟨hi.nodes,eZ.trans hi.len,by rw[eR hc,if_neg (h.cs b)];exact hi.root,λ b'=>by
  rw[eR hc]
  by_cases e:b'=b
  ·subst e;rw[if_pos rfl];exact(if_pos rfl).symm
  ·rw[if_neg (h.ss b' b e)]
   show _=if b=b' then(1:Int) else 0
   rw[if_neg (Ne.symm e)]
   exact hi.st b',by rw[eR hc,if_neg (h.ms b)];exact hi.main,by rw[eR hc,if_neg (h.ps b)];exact hi.prev⟩
theorem dne(h:V6 N L c r m d n)(b b':Bool):d b≠n b'/\d b≠r:=⟨λ e=>by have h1:=h.kd b;rw[e,h.kn b'] at h1;exact absurd h1 (by decide),λ e=>by have h1:=h.kd b;rw[e,h.kr] at h1;exact absurd h1 (by decide)⟩
theorem o9{X:RG}{k:Nv->Tr}{v:Int}{j:Nat}{q:X.S}(h:∀M,X.I q M->RT X (k (bD M.nodes v)) j q):RT X (.node v k) j q:=h
theorem mh(h:V6 N L c r m d n){K:Tr}(hb:q.own=some b)(hK:∀q':RS,q'.own=some b->2<=q'.rk->RT (yR N L c r m d n T) K k q'):RT (yR N L c r m d n T) (jN t (d b) K) (k+3) q:=by
 refine o9 λ M hi=>?_
 rw[hi.nodes,h.dold]
 refine o9 λ M1 hi1=>?_
 rw[hi1.nodes]
 refine⟨k+2,rfl,λ q1 M2 hr1 hi2=>?_⟩
 rw[hi2.main]
 refine o9 λ M3 hi3=>?_
 rw[hi3.nodes]
 refine⟨k+1,rfl,λ q2 M4 hr2 hi4=>?_⟩
 rw[hi4.prev]
 try dsimp only
 rw[if_pos rfl]
 refine o9 λ M5 hi5=>o9 λ M6 hi6=>?_
 rw[hi5.nodes,hi6.nodes,h.dexp,if_pos rfl]
 have hb2:q2.own=some b:=hr2.1.ow b (hr1.1.ow b hb)
 refine⟨k,rfl,λ q3 M7 hr3 hi7=>?_⟩
 have hb3:=hr3.1.ow b hb2
 refine⟨λ hc=>?_,λ hc=>⟨sR q3,?_⟩⟩
 ·have e0:=(hi7.st b).symm.trans (oB hc)
  have e:q3=.dec b:=by
   cases q3 with
   | idle=>cases hb3
   | dec b'=>rw[Option.some.inj hb3]
   | yes b'=>rw[Option.some.inj hb3] at e0;exact absurd ((if_pos rfl).symm.trans e0) (by decide)
   | new b'=>rw[Option.some.inj hb3] at e0;exact absurd ((if_pos rfl).symm.trans e0) (by decide)
  subst e
  exact⟨.yes b,⟨⟨Nat.le_succ 1,λ _ h=>h⟩,λ b' h1=>nomatch h1⟩,hi7.aCv h hc,hK _ rfl (Nat.le_refl 2)⟩
 ·refine hK q3 hb3 ?_
  cases q3 with
  | idle=>cases hb3
  | dec b' =>
   rw[Option.some.inj hb3] at hi7
   exact absurd (Mu (h.s1 b) (by rw[hi7.len];exact h.s2 b) (hi7.st b)).2 hc
  | yes b'=>exact Nat.le_refl 2
  | new b'=>exact Nat.le_succ 2
theorem o6(hb:q.own=some b)(hk:3<=q.rk):q=.new b:=by
 cases q with
 | idle=>cases hb
 | dec b'=>exact absurd hk (Nat.not_le.2 (show 1<3 by decide))
 | yes b'=>exact absurd hk (Nat.not_le.2 (show 2<3 by decide))
 | new b'=>rw[Option.some.inj hb]
theorem Vg(hb:q.own=some b)(hk:2<=q.rk):q=.yes b∨q=.new b:=by
 cases q with
 | idle=>cases hb
 | dec b'=>exact absurd hk (Nat.not_le.2 (show 1<2 by decide))
 | yes b'=>rw[Option.some.inj hb];exact .inl rfl
 | new b'=>rw[Option.some.inj hb];exact .inr rfl
theorem jq(h:V6 N L c r m d n)(ht:t.root=c){K:Int->Tr}(hb:q.own=some b)(hk:2<=q.rk)(hK:RT (yR N L c r m d n T) (K (n b)) k (.new b)):RT (yR N L c r m d n T) (jX t (d b) 1 K) (k+1) q:=by
 refine o9 λ M hi=>?_
 rw[hi.nodes]
 show RT _ (.iQ t.root (d b) (if(1:Int)=1 then(bD N (d b)).new else(bD N (d b)).bA) λ _=>K (if(1:Int)=1 then(bD N (d b)).new else(bD N (d b)).bA)) _ _
 rw[if_pos rfl,h.dnew,ht]
 refine⟨k,rfl,λ q1 M1 hr1 hi1=>?_⟩
 have hb1:=hr1.1.ow b hb
 have hk1:2<=q1.rk:=Nat.le_trans hk hr1.1.rk
 rcases Vg hb1 hk1 with e|e
 ·subst e
  refine⟨λ hc=>⟨.new b,⟨⟨Nat.le_succ 2,λ _ h=>h⟩,λ b' h1=>nomatch h1⟩,hi1.aA2 (q2:=.new b) h hc (λ _=>rfl),hK⟩,λ hc=>?_⟩
  exact absurd (Mu h.c1 (by rw[hi1.len];exact h.c2) hi1.root).2 hc
 ·subst e
  refine⟨λ hc=>?_,λ hc=>⟨sR _,hK⟩⟩
  have:=hi1.root.symm.trans (oB hc)
  exact absurd this.symm (dne h b b).1
theorem ln(h:V6 N L c r m d n)(ht:t.root=c){K:Int->Int->Tr}(hb:q.own=some b)(hk:2<=q.rk)(hK:RT (yR N L c r m d n T) (K 1 (n b)) k (.new b)):RT (yR N L c r m d n T) (.node (d b) λ nd=>.load nd.status λ s=>jX t (d b) s (K s)) (k+2) q:=by
 refine o9 λ M hi=>?_
 rw[hi.nodes]
 refine⟨k+1,rfl,λ q1 M1 hr1 hi1=>?_⟩
 have hb1:=hr1.1.ow b hb
 have hk1:2<=q1.rk:=Nat.le_trans hk hr1.1.rk
 have e1:aY M1.cs (bD N (d b)).status=1:=by
  rw[hi1.st b]
  rcases Vg hb1 hk1 with e|e<;>subst e<;>exact if_pos rfl
 rw[e1]
 exact jq h ht hb1 hk1 hK
abbrev ul(t:dO)(r:Int)(d:Int):Tr:=.iQ t.root r d λ b=>if b=true then jN t d (.node d λ nd=>.load nd.status λ s=>jX t d s λ _=>.done (eN 0 (s==1))) else .done (eN 0 false)
theorem zx(h:RS.le (.new b) q):q=.new b:=o6 (h.ow b rfl) h.rk
theorem Y4(h:V6 N L c r m d n)(ht:t.root=c)(hq:q.own=some b):RT (yR N L c r m d n (some b)) (jN t (d b) (.node (d b) λ nd=>.load nd.status λ s=>jX t (d b) s λ _=>.done (eN 0 (s==1)))) 5 q :=
 mh (k:=2) h hq λ q3 h3 h4=>ln (k:=0) (K:=λ s _=>.done (eN 0 (s==1))) h ht h3 h4 λ q4 h5 b' hb'=>.inl ⟨rfl,by rw[zx h5.1,Option.some.inj hb']⟩
theorem V3(h:V6 N L c r m d n)(ht:t.root=c)(hq:q.own≠some b):RT (yR N L c r m d n (some b)) (ul t r (d b)) 6 q:=by
 refine⟨5,rfl,λ q1 M1 hr1 hi1=>?_⟩
 have hq1:q1.own≠some b:=λ e=>by
  cases ho:q.own with
  | none=>exact hr1.2 b ho e rfl
  | some b'=>have h2:=hr1.1.ow b' ho;rw[e] at h2;rw[ho] at hq;exact hq h2.symm
 rw[ht]
 refine⟨λ hc=>?_,λ hc=>⟨sR _,?_⟩⟩
 ·have e0:=hi1.root.symm.trans (oB hc)
  have e:q1=.idle:=by
   cases q1 with
   | idle=>rfl
   | dec b'=>exact absurd e0 (dne h b' b).2
   | yes b'=>exact absurd e0 (dne h b' b).2
   | new b'=>exact absurd e0.symm (h.rn b')
  subst e
  exact⟨.dec b,⟨⟨Nat.zero_le _,λ _ h=>nomatch h⟩,λ b' _ h2=>by rw[<- h2];rfl⟩,hi1.aA2 (q2:=.dec b) h hc (λ _=>rfl),Y4 h ht rfl⟩
 ·have hn:∃b',q1.own=some b':=by
   cases q1 with
   | idle=>exact absurd (Mu h.c1 (by rw[hi1.len];exact h.c2) hi1.root).2 hc
   | dec b'=>exact⟨b',rfl⟩
   | yes b'=>exact⟨b',rfl⟩
   | new b'=>exact⟨b',rfl⟩
  obtain⟨b',hb'⟩:=hn
  have eb:b'=!b:=by
   have:b'≠b:=λ e=>hq1 (by rw[hb',e])
   cases b<;>cases b'<;>first|rfl|exact absurd rfl this
  intro q2 h2 b2 hb2
  rw[<- Option.some.inj hb2]
  exact .inr ⟨rfl,by rw[<- eb];exact h2.1.ow b' hb'⟩
theorem nq(h:V6 N L c r m d n)(ht:t.root=c):RT (yR N L c r m d n none) (kF t λ r=>.done (eN r false)) 7 q:=by
 have hd:∀v (q:RS),RT (yR N L c r m d n none) (.done (eN v false)) 0 q:=λ v q q' _ b hb=>nomatch hb
 refine⟨6,rfl,λ q1 M1 hr1 hi1=>?_⟩
 rw[ht,hi1.root]
 refine o9 λ M2 hi2=>?_
 rw[hi2.nodes]
 have key:∀b,q1.own=some b->RT (yR N L c r m d n none) (.node (d b) λ n=>.load n.status λ s =>
   if s=0 then jN t (d b) (.node (d b) λ n=>.load n.status λ s=>jX t (d b) s λ r=>.done (eN r false)) else jX t (d b) s λ r=>.done (eN r false)) 6 q1:=λ b hb=>by
  refine o9 λ M3 hi3=>?_
  rw[hi3.nodes]
  refine⟨5,rfl,λ q2 M4 hr2 hi4=>?_⟩
  have hb2:=hr2.1.ow b hb
  rw[hi4.st b]
  try dsimp only
  split
  ·exact mh (k:=2) h hb2 λ q3 h3 h4=>ln (k:=0) (K:=λ _ r=>.done (eN r false)) h ht h3 h4 (hd _ _)
  ·rename_i hs
   have hk:2<=q2.rk/\q2.st b=1:=by
    cases q2 with
    | idle=>cases hb2
    | dec b'=>exact absurd rfl hs
    | yes b'=>rw[Option.some.inj hb2];exact⟨Nat.le_refl 2,if_pos rfl⟩
    | new b'=>rw[Option.some.inj hb2];exact⟨Nat.le_succ 2,if_pos rfl⟩
   rw[hk.2]
   exact(jq (k:=0) h ht hb2 hk.1 (hd _ _)).mono (by decide)
 cases q1 with
 | idle =>
  show RT _ (if(bD N r).kind=2 then _ else _) _ _
  rw[if_pos h.kr]
  exact(hd _ _).mono (by decide)
 | dec b =>
  show RT _ (if(bD N (d b)).kind=2 then _ else _) _ _
  rw[if_neg (by rw[h.kd];decide)]
  exact key b rfl
 | yes b =>
  show RT _ (if(bD N (d b)).kind=2 then _ else _) _ _
  rw[if_neg (by rw[h.kd];decide)]
  exact key b rfl
 | new b =>
  show RT _ (if(bD N (n b)).kind=2 then _ else _) _ _
  rw[if_pos (h.kn b)]
  exact(hd _ _).mono (by decide)
structure Mb(N:List Nv)(L:Nat)(c r m:Int)(d n:Bool->Int)(tx ty tz:Tr)(M:Mm)(q:RS):Prop where
 i:Xz N L c r m d n q M
 x:RT (yR N L c r m d n (some false)) tx 7 q
 y:RT (yR N L c r m d n (some true)) ty 7 q
 z:RT (yR N L c r m d n none) tz 7 q
 ax:cS tx=true
 ay:cS ty=true
 az:cS tz=true
variable{tx ty tz:Tr}
theorem Mb.start(h:V6 N L c r m d n)(ht:t.root=c)(hi:Xz N L c r m d n .idle M):Mb N L c r m d n (ul t r (d false)) (ul t r (d true)) (kF t λ r=>.done (eN r false)) M .idle :=
 ⟨hi,(V3 h ht (by intro h;cases h)).mono (by decide),(V3 h ht (by intro h;cases h)).mono (by decide),nq h ht,rfl,rfl,rfl⟩
theorem Mb.aA5(k:Nat)(h:Mb N L c r m d n tx ty tz M q):∃q2,Mb N L c r m d n (kP (tx,M) k).1 ty tz (kP (tx,M) k).2 q2/\RT (yR N L c r m d n (some false)) (kP (tx,M) k).1 (7-k) q2/\nf (some false) q q2:=by
 obtain⟨q2,hg,hi,h1,ha⟩:=RT.run (X:=yR N L c r m d n (some false)) qK sR Cj k h.ax h.x h.i
 exact⟨q2,⟨hi,h1.mono (by omega),RT.Ns (X:=yR N L c r m d n (some true)) kH h.ay h.y (hg.p8 (by decide)),RT.Ns (X:=yR N L c r m d n none) kH h.az h.z (hg.p8 (by decide)),ha,h.ay,h.az⟩,h1,hg⟩
theorem Mb.aBT(k:Nat)(h:Mb N L c r m d n tx ty tz M q):∃q2,Mb N L c r m d n tx (kP (ty,M) k).1 tz (kP (ty,M) k).2 q2/\RT (yR N L c r m d n (some true)) (kP (ty,M) k).1 (7-k) q2/\nf (some true) q q2:=by
 obtain⟨q2,hg,hi,h1,ha⟩:=RT.run (X:=yR N L c r m d n (some true)) qK sR Cj k h.ay h.y h.i
 exact⟨q2,⟨hi,RT.Ns (X:=yR N L c r m d n (some false)) kH h.ax h.x (hg.p8 (by decide)),h1.mono (by omega),RT.Ns (X:=yR N L c r m d n none) kH h.az h.z (hg.p8 (by decide)),h.ax,ha,h.az⟩,h1,hg⟩
theorem Mb.aA1(k:Nat)(h:Mb N L c r m d n tx ty tz M q):∃q2,Mb N L c r m d n tx ty (kP (tz,M) k).1 (kP (tz,M) k).2 q2/\RT (yR N L c r m d n none) (kP (tz,M) k).1 (7-k) q2/\nf none q q2:=by
 obtain⟨q2,hg,hi,h1,ha⟩:=RT.run (X:=yR N L c r m d n none) qK sR Cj k h.az h.z h.i
 exact⟨q2,⟨hi,RT.Ns (X:=yR N L c r m d n (some false)) kH h.ax h.x (hg.p8 (by decide)),RT.Ns (X:=yR N L c r m d n (some true)) kH h.ay h.y (hg.p8 (by decide)),h1.mono (by omega),h.ax,h.ay,ha⟩,h1,hg⟩
structure RoE(N:List Nv)(L:Nat)(c r m:Int)(d n:Bool->Int)(tx ty tz:Tr)(M:Mm)(b:Bool):Prop where
 x:tx=.done (eN 0 (!b))
 y:ty=.done (eN 0 b)
 z:∃v,tz=.done v
 i:Xz N L c r m d n (.new b) M
theorem Mb.end{j:Nat}(hj:7<=j)(h:Mb N L c r m d n tx ty tz M q):∃b,RoE N L c r m d n (kP (tx,M) j).1 (kP (ty,(kP (tx,M) j).2) j).1 (kP (tz,(kP (ty,(kP (tx,M) j).2) j).2) j).1 (kP (tz,(kP (ty,(kP (tx,M) j).2) j).2) j).2 b/\(q=.idle->b=false):=by
 obtain⟨q1,w1,hx,g1⟩:=h.aA5 j
 obtain⟨q2,w2,hy,g2⟩:=w1.aBT j
 obtain⟨q3,w3,hz,g3⟩:=w2.aA1 j
 have e0:7-j=0:=by omega
 rw[e0] at hx hy hz
 have hx3:=RT.Ns (X:=yR N L c r m d n (some false)) kH w1.ax hx (kH _ _ _ (g2.p8 (T':=some false) (by decide)) (g3.p8 (by decide)))
 have hy3:=RT.Ns (X:=yR N L c r m d n (some true)) kH w2.ay hy (g3.p8 (T':=some true) (by decide))
 obtain⟨rx,ex,qx⟩:=hx3.fin (X:=yR N L c r m d n (some false)) w1.ax (qK q3)
 obtain⟨ry,ey,qy⟩:=hy3.fin (X:=yR N L c r m d n (some true)) w2.ay (qK q3)
 obtain⟨rz,ez,_⟩:=hz.fin (X:=yR N L c r m d n none) w3.az (qK q3)
 have hfirst:q=.idle->q1.own=some false:=λ e=>by
  subst e
  obtain⟨rx,_,qx⟩:=hx.fin (X:=yR N L c r m d n (some false)) w1.ax (qK q1)
  rcases qx false rfl with⟨_,e2⟩|⟨_,e2⟩
  ·rw[e2];rfl
  ·exact absurd (g1.2 _ rfl e2) (by decide)
 rcases qx false rfl with⟨e1,e2⟩|⟨e1,e2⟩
 ·rcases qy true rfl with⟨e3,e4⟩|⟨e3,e4⟩
  ·rw[e2] at e4;cases e4
  ·refine⟨false,⟨by rw[ex,e1];rfl,by rw[ey,e3],⟨rz,ez⟩,by rw[<- e2];exact w3.i⟩,λ _=>rfl⟩
 ·rcases qy true rfl with⟨e3,e4⟩|⟨e3,e4⟩
  ·refine⟨true,⟨by rw[ex,e1];rfl,by rw[ey,e3],⟨rz,ez⟩,by rw[<- e4];exact w3.i⟩,λ h1=>?_⟩
   have:=(g2.1.trans g3.1).ow false (hfirst h1)
   rw[e2] at this
   cases this
  ·rw[e2] at e4;cases e4
theorem gg(h:V6 N L c r m d n)(ht:t.root=c)(hi:Xz N L c r m d n (.new b) M):∀k,1<=k->kP (Ct.gW (kF t λ r=>.done (eN r false)) M) k=(.done (eN (n b) false),M):=λ k hk=>by
 have e:kP (Ct.gW (kF t λ r=>.done (eN r false)) M) 1=(.done (eN (n b) false),M):=by
  show vF (Ct.gW (kF t λ r=>.done (eN r false)) M)=_
  show Ct.gW (if(bD M.nodes (aY M.cs t.root)).kind=2 then Tr.done (eN (aY M.cs t.root) false) else _) M=_
  rw[ht,hi.root,hi.nodes]
  show Ct.gW (if(bD N (n b)).kind=2 then Tr.done (eN (n b) false) else _) M=_
  rw[if_pos (h.kn b)]
  rfl
 exact(Ju (by rw[e];rfl) hk).1.trans e
end
end
end Go.Proofs.YtbajmaoegmbfgaaGreat
