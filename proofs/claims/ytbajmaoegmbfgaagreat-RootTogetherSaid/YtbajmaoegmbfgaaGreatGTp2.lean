/- The procedures with shared cells, as trees. -/
import Derived.Test.YtbajmaoegmbfgaaGreatGVw1
import Derived.Test.YtbajmaoegmbfgaaGreatGTr3
import Derived.Test.YtbajmaoegmbfgaaGreatGDfr
import Derived.Test.YtbajmaoegmbfgaaGreatGAr5

set_option linter.unusedSimpArgs false
set_option linter.unusedVariables false
namespace Go.Ct
section
def NI.c0(a:NI):Nv:=a.n.c a.xs a.ys
end
end Go.Ct
namespace Go.Proofs.YtbajmaoegmbfgaaGreat
section
open Go.RowKit Go.Ct
structure fR where
 root:Int
 ro:Bool
structure Cl where
 kind:Int
 t:fR
 a:Int
 b:Int
 n:Int
 index:Int
 hash:Int
 mask:Int
 key:ByteArray
 val:Int
 exp:Int
 Ir:Int
 only:Bool
def gL(h:Nat)(level:Int):Int:=if level<0∨10<level then 0 else(sl h level.toNat:Int)
def yJ(p:Int):Nv:=({Nd.zero with kind:=7,bD:=p}:Nd).c [] []
def oA(g:Int):Nv:=({Nd.zero with kind:=2,gen:=g}:Nd).c [] []
def Ap(a b c:Int):Nv:=({Nd.zero with kind:=8,bD:=a,exp:=b,new:=c}:Nd).c [] []
def Ft(h:Int)(k:ByteArray)(u:Int):Nv:=({Nd.zero with kind:=4,hash:=h,key:=k,val:=u}:Nd).c [] []
def Me:Nv:=({Nd.zero with kind:=3}:Nd).c [] []
def yr(v s:Int)(K:Int->Tr):Tr:=.node v λ n=>K (if s=1 then n.new else n.bD)
def mI(t:fR)(v s:Int)(K:Int->Tr):Tr:=yr v s λ w=>.kI t.root v w λ _=>K w
def Jb(t:fR)(K:Int->Tr):Tr:=.load t.root λ v=>.node v λ n=>if n.kind=2 then K v else .node v λ n=>.load n.status λ s =>
 if s=0 then .node v λ n=>.kI n.status 0 2 λ _=>.node v λ n=>.load n.status λ s=>mI t v s K else mI t v s K
def P5(i m p:Int)(K:Int->Tr):Tr:=.node i λ ni=>.node p λ np=>.kI ni.main m np.bD λ _=>.node p λ np=>K np.bD
def jP(i m:Int)(K:Int->Tr):Tr:=.node m λ nm=>.load nm.prev λ p=>if p=0 then K m else P5 i m p K
def qS(i m p:Int)(c:Bool)(K:Int->Tr):Tr :=
 if c=true then .node m λ nm=>.kI nm.prev p 0 λ _=>jP i m K
 else .node m λ nm=>.alloc (yJ p) 0 λ f=>.kI nm.prev p f λ _=>jP i m K
def tI(t:fR)(i m:Int)(K:Int->Tr):Tr:=.node m λ nm=>.load nm.prev λ p=>if p=0 then K m else .node p λ np =>
 if cL np then(if t.ro=true then qS i m p false K else Jb t λ r=>.node r λ nr=>.node i λ ni=>qS i m p (nr.gen==ni.gen) K)
 else P5 i m p K
def nF(t:fR)(i:Int)(K:Int->Tr):Tr:=.node i λ ni=>.load ni.main λ m=>tI t i m K
def oR(t:fR)(v:Int)(K:Tr):Tr:=.node v λ n=>nF t n.bD λ r=>.node v λ n2=>.node v λ n3=>.kI n3.status 0 (if r=n2.exp then 1 else 2) λ _=>K
def oL(t:fR)(K:Int->Tr):Tr:=.load t.root λ v=>.node v λ n=>if n.kind=2 then K v else .node v λ n=>.load n.status λ s =>
 if s=0 then oR t v (.node v λ n=>.load n.status λ s=>mI t v s K) else mI t v s K
def nG(t:fR)(i bD n:Int)(K:Bool->Tr):Tr:=.node i λ ni=>.kI ni.main bD n λ b=>if b=true then tI t i n λ m=>K (m==n) else K false
def mQ(t:fR)(bD exp new:Int)(K:Bool->Tr):Tr:=.alloc (Ap bD exp new) 0 λ d=>.kI t.root bD d λ b =>
 if b=true then oR t d (.node d λ nd=>.load nd.status λ s=>mI t d s λ _=>K (s==1)) else K false
noncomputable def Ic (c index r:Int) (K:Int->Tr):Tr:=.node c λ nc=>.alloc (dt nc index r) c K
noncomputable def Mc (t:fR) (i c index:Int) (K:Int->Tr):Tr:=.node c λ nc=>nF t ((mB nc index).getD 0) λ m=>.node i λ ni=>.alloc (oA ni.gen) m λ j =>
 Ic c index j λ r=>nG t i c r λ ok=>K (if ok=true then j else 0)
noncomputable def zO (t:fR) (parent child:Int) (h:Nat) (level:Int) (K:Bool->Tr):Tr:=nF t parent λ m=>.node m λ nm =>
 if mB nm (gL h level)=some child then nF t child λ mc=>.node mc λ nmc =>
  if nmc.kind=5 then .alloc (zd nmc) 0 λ s=>.node m λ nm2=>.alloc (yg (dt nm2 (gL h level) s) level (zd nmc)) m λ r=>nG t parent m r K
  else K false
 else K false
def jL(f:Bool)(v:Int):Rs:=⟨0,f,v,⟨#[]⟩,0,0,0,false⟩
def rQ(f:Bool)(v:Int):Rs:=⟨0,f,v,⟨#[]⟩,1,0,0,false⟩
noncomputable def C3 (t:fR) (h:Nat) (key:ByteArray) (K:Rs->Tr):Nat->Int->Int->Tr
 | 0,_,_=>.stuck
 | n+1,i,level=>nF t i λ mr=>.node mr λ m =>
  if m.kind=5 then(if m.key=key then K (jL true m.val) else K (jL false 0))
  else if m.kind=6 then K (jL (dR m.ys key).isSome ((dR m.ys key).getD 0))
  else match mB m (gL h level) with
   | none=>K (jL false 0)
   | some b=>.node b λ s=>if s.kind=4 then(if s.key=key then K (jL true s.val) else K (jL false 0)) else C3 t h key K n b (level+1)
def nW(c:Cl)(found:Bool)(v:Int):Bool:=if c.Ir=1 then !found else if c.Ir=2 then found else if c.Ir=3 then found&&v==c.exp else true
def zT:List NI->Int->(Int->Tr)->Tr
 | [],r,K=>K r
 | a::l,_,K=>.alloc a.c0 a.init λ r=>zT l r K
def dP(at_:Int)(h0 h:Nat)(p:Pr)(k:ByteArray)(u gen:Int)(fi lvl:Nat):List NI:=dN at_ h0 h p k u gen fi (kP h0 h-lvl) (kP h0 h-(kP h0 h-lvl))
def Uo(c:Cl)(b:Int)(h:Nat)(level:Nat)(gen:Int)(K:Int->Tr):Tr:=.node b λ nb =>
 .alloc ((dP b nb.hash.toNat h (nb.key,nb.val) c.key c.val gen 0 level).headD NI.no).c0 ((dP b nb.hash.toNat h (nb.key,nb.val) c.key c.val gen 0 level).headD NI.no).init λ f =>
 zT (dP b nb.hash.toNat h (nb.key,nb.val) c.key c.val gen f.toNat level).tail f K
noncomputable def lR (c:Cl) (i m:Int) (h:Nat) (level:Nat) (gen:Int) (K:Rs->Int->Tr):Tr:=.node m λ n =>
 if n.kind=6 then
  (if nW c (dR n.ys c.key).isSome ((dR n.ys c.key).getD 0)=true then
   .alloc (wu n c.key c.val) m λ r=>nG c.t i m r λ ok=>K (rQ (dR n.ys c.key).isSome ((dR n.ys c.key).getD 0)) (if ok=true then 1 else 0)
  else K (jL (dR n.ys c.key).isSome ((dR n.ys c.key).getD 0)) 1)
 else match mB n (gL h level) with
  | none=>if nW c false 0=true then .alloc (Ft h c.key c.val) 0 λ s=>.alloc (xi n (gL h level) s) m λ r=>nG c.t i m r λ ok=>K (rQ false 0) (if ok=true then 1 else 0) else K (jL false 0) 1
  | some b=>.node b λ nb=>if nb.kind=2 then K Rs.zero 2 else
   if nb.key=c.key then
    (if nW c true nb.val=true then .alloc (Ft h c.key c.val) 0 λ s=>Ic m (gL h level) s λ r=>nG c.t i m r λ ok=>K (rQ true nb.val) (if ok=true then 1 else 0)
    else K (jL true nb.val) 1)
   else
    (if nW c false 0=true then Uo c b h (level+1) gen λ d=>.alloc (oA gen) d λ j=>Ic m (gL h level) j λ r=>nG c.t i m r λ ok=>K (rQ false 0) (if ok=true then 1 else 0)
    else K (jL false 0) 1)
noncomputable def Fy (c:Cl) (i m index gen:Int) (K:Int->Tr):Tr:=.node m λ nm=>.node ((mB nm index).getD 0) λ nb=>if nb.gen=gen then K ((mB nm index).getD 0) else Mc c.t i m index K
noncomputable def De (c:Cl) (h:Nat) (K:Rs->Tr) (again:Tr) (gen:Int):Nat->Int->Int->Nat->Tr
 | 0,_,_,_=>.stuck
 | n+1,i,parent,level=>nF c.t i λ m=>.node m λ nm =>
  if nm.kind=5 then zO c.t parent i h ((level:Int)-1) λ _=>again
  else lR c i m h level gen λ r what=>if what=1 then K r else if what=0 then again else
   Fy c i m (gL h level) gen λ b=>if b=0 then again else De c h K again gen n b i (level+1)
noncomputable def F4 (c:Cl) (h:Nat) (K:Rs->Tr):Nat->Tr
 | 0=>.stuck
 | n+1=>oL c.t λ i=>.node i λ ni=>De c h K (F4 c h K n) ni.gen n i 0 0
noncomputable def kB (c:Cl) (i m:Int) (h:Nat) (level:Nat) (K:Rs->Int->Tr):Tr:=.node m λ n =>
 if n.kind=6 then
  (if(dR n.ys c.key).isSome=false∨(c.only=true/\(dR n.ys c.key).getD 0≠c.exp) then K (jL (dR n.ys c.key).isSome ((dR n.ys c.key).getD 0)) 1
  else .alloc (n7 n c.key) m λ r=>nG c.t i m r λ ok=>K (rQ true ((dR n.ys c.key).getD 0)) (if ok=true then 1 else 0))
 else match mB n (gL h level) with
  | none=>K (jL false 0) 1
  | some b=>.node b λ s=>if s.kind=2 then K Rs.zero 2 else if s.key≠c.key then K (jL false 0) 1 else if c.only=true/\s.val≠c.exp then K (jL true s.val) 1
   else .node ((Lm (My n (gL h level))).getD 0) λ so=>.alloc (yg (My n (gL h level)) level so) m λ r=>nG c.t i m r λ ok=>K (rQ true s.val) (if ok=true then 1 else 0)
noncomputable def te (t:fR) (path:List Int) (h:Nat) (K:Tr):Nat->Tr
 | 0=>K
 | l+1=>nF t (path.getD (l+1) 0) λ m=>.node m λ nm=>if nm.kind=5 then zO t (path.getD l 0) (path.getD (l+1) 0) h (l:Int) λ _=>te t path h K l else K
noncomputable def vD (c:Cl) (h:Nat) (K:Rs->Tr) (again:Tr) (gen:Int):Nat->Int->List Int->Nat->Tr
 | 0,_,_,_=>.stuck
 | n+1,i,path,level=>nF c.t i λ m=>.node m λ nm =>
  if nm.kind=5 then zO c.t (path.getD (level-1) 0) i h ((level:Int)-1) λ _=>again
  else kB c i m h level λ r what=>if what=1 then(if r.gH=1 then te c.t path h (K r) (path.length-1) else K r) else if what=0 then again else
   Fy c i m (gL h level) gen λ b=>if b=0 then again else vD c h K again gen n b (path++[b]) (level+1)
noncomputable def vH (c:Cl) (h:Nat) (K:Rs->Tr):Nat->Tr
 | 0=>.stuck
 | n+1=>oL c.t λ i=>.node i λ ni=>vD c h K (vH c h K n) ni.gen n i [i] 0
def Pt(root:Int)(ro:Bool):Rs:=⟨0,true,0,⟨#[]⟩,0,0,root,ro⟩
def O0(m:Int)(K:Rs->Tr):Tr:=.gen λ g=>.alloc (oA g) m λ r=>.cell r λ c=>K (Pt c false)
def Ke(t:fR)(fz:Bool)(K:Rs->Tr):Nat->Tr
 | 0=>.stuck
 | n+1=>oL t λ r=>nF t r λ m=>.gen λ g=>.alloc (oA g) m λ j=>mQ t r m j λ ok =>
  if ok=true then(if fz=true then .cell r λ c=>K (Pt c true) else O0 m K) else Ke t fz K n
def sL(t:fR)(fz:Bool)(K:Rs->Tr)(n:Nat):Tr :=
 if t.ro=true then .load t.root λ r=>if fz=true then .cell r λ c=>K (Pt c true) else nF t r λ m=>O0 m K
 else Ke t fz K n
def yX(t:fR)(K:Rs->Tr):Nat->Tr
 | 0=>.stuck
 | n+1=>oL t λ r=>nF t r λ m=>.alloc Me 0 λ c=>.gen λ g=>.alloc (oA g) c λ j=>mQ t r m j λ ok =>
  if ok=true then K (jL true 0) else yX t K n
def lD(r:Int)(f:Bool):Rs:=⟨0,f,0,⟨#[]⟩,0,r,0,false⟩
def refuse(c:Cl):Int:=if c.kind=7∨c.kind=9 then(if c.key.size<=64 then 0 else 1) else if c.kind=8 then(if c.key.size<=64/\0<=c.Ir/\c.Ir<=3 then 0 else 1) else 0
noncomputable def kJ (c:Cl) (h:Nat) (n:Nat):Tr :=
 if refuse c≠0 then .done {Rs.zero with err:=refuse c}
 else if c.kind=1 then nF c.t c.a λ r=>.done (lD r false)
 else if c.kind=2 then nG c.t c.a c.b c.n λ ok=>.done (lD 0 ok)
 else if c.kind=3 then oL c.t λ r=>.done (lD r false)
 else if c.kind=4 then mQ c.t c.a c.b c.n λ ok=>.done (lD 0 ok)
 else if c.kind=7 then oL c.t λ i=>C3 c.t h c.key .done n i 0
 else if c.kind=8 then F4 c h .done n
 else if c.kind=9 then vH c h .done n
 else if c.kind=10 then sL c.t false .done n
 else if c.kind=11 then sL c.t true .done n
 else yX c.t .done n
end

/- Codes with a store: what they mean as trees. -/
end Go.Proofs.YtbajmaoegmbfgaaGreat
namespace Go.Ct
section
open Go Go.RowKit
structure AS where
 L:List aS
 cs:List Int
 gen:Int
 acc:Int
 pn:Option Addr
 cn:Nat
 pc:Option Addr
 cc:Nat
def AS.mm(a:AS):Mm:=⟨(cW a.L).map aS.c,a.cs,a.gen⟩
structure Yv(s:Mm):Prop where
 nd:∀v∈s.nodes,lJ s.nodes.length s.cs.length v
 cs:∀v∈s.cs,v<=s.nodes.length
 two:2<=s.nodes.length
structure AS.Ok(a:AS):Prop where
 fit:Fits a.L
 mo:Yv a.mm
structure Mm.Le(s s1:Mm):Prop where
 nodes:∃N,s1.nodes=s.nodes++N
 cl:s.cs.length<=s1.cs.length
def Mm.Small(s:Mm):Prop:=s.nodes.length<=137438953472/\s.cs.length<=137438953472
structure AS.iD(a a':AS)(F:Fr):Prop where
 le:a.mm.Le a'.mm
 fam:∀f∈aK a'.L,f.2=[]∨f∈aK a.L∨f∈F
theorem Mm.Le.refl(s:Mm):s.Le s:=⟨⟨[],by simp⟩,Nat.le_refl _⟩
theorem Mm.Le.trans{s t u:Mm}(h:s.Le t)(h2:t.Le u):s.Le u:=by
 obtain⟨⟨N,e⟩,c⟩:=h
 obtain⟨⟨M,e2⟩,c2⟩:=h2
 exact⟨⟨N++M,by rw[e2,e,List.append_assoc]⟩,Nat.le_trans c c2⟩
theorem Mm.Le.len{s t:Mm}(h:s.Le t):s.nodes.length<=t.nodes.length:=by obtain⟨N,e⟩:=h.nodes;rw[e,List.length_append];omega
theorem Mm.Le.nd{s t:Mm}(h:s.Le t){r:Int}(hr:r<=s.nodes.length):dY t.nodes r=dY s.nodes r:=by obtain⟨N,e⟩:=h.nodes;rw[e];exact Fg hr
theorem AS.iD.refl(a:AS):a.iD a []:=⟨Mm.Le.refl _,λ f hf=>.inr (.inl hf)⟩
theorem AS.iD.more{a a':AS}{F F':Fr}(h:a.iD a' F)(hs:∀f∈F,f∈F'):a.iD a' F':=⟨h.le,λ f hf=>(h.fam f hf).imp_right λ h=>h.imp_right λ h=>hs f h⟩
theorem AS.iD.trans{a b c:AS}{F G:Fr}(h:a.iD b F)(h2:b.iD c G):a.iD c (G++F):=⟨h.le.trans h2.le,λ f hf=>by
 rcases h2.fam f hf with h1|h1|h1
 ·exact .inl h1
 ·rcases h.fam f h1 with h1|h1|h1
  ·exact .inl h1
  ·exact .inr (.inl h1)
  ·exact .inr (.inr (List.mem_append_right _ h1))
 ·exact .inr (.inr (List.mem_append_left _ h1))⟩
theorem Yv.at{s:Mm}(h:Yv s)(r:Int):lJ s.nodes.length s.cs.length (dY s.nodes r):=by
 unfold dY
 split
 ·refine h.nd _ ?_
  rw[kH,List.getElem?_eq_getElem (by omega)]
  exact List.getElem_mem _
 ·exact Pz _ _
theorem Yv.cell{s:Mm}(h:Yv s)(c:Int):bV s.cs c<=s.nodes.length:=by
 unfold bV
 split
 ·exact lZ h.cs _
 ·exact bH _
theorem Yv.kI{s:Mm}(h:Yv s){c o n:Int}(hn:n<=s.nodes.length):Yv ⟨s.nodes,eO s.cs c o n,s.gen⟩:=by
 refine⟨λ v hv=>by simp only[hJ];exact h.nd v hv,λ v hv=>?_,h.two⟩
 simp only[eO] at hv
 split at hv
 ·rcases List.mem_or_eq_of_mem_set hv with hv|rfl
  ·exact h.cs v hv
  ·exact hn
 ·exact h.cs v hv
def iU:Tr->Mm->Tr×Mm
 | .alloc n i k,s=>iU (k ((s.nodes.length+1:Nat):Int)) (s.push n i)
 | .cell i k,s=>iU (k ((s.cs.length+1:Nat):Int)) ⟨s.nodes,s.cs++[i],s.gen⟩
 | .gen k,s=>iU (k (s.gen+1)) ⟨s.nodes,s.cs,s.gen+1⟩
 | .node r k,s=>iU (k (dY s.nodes r)) s
 | t,s=>(t,s)
def nxT:Tr->Mm->Tr×Mm
 | .load c k,s=>(k (bV s.cs c),s)
 | .kI c o n k,s=>(k (k9 s.cs c o),⟨s.nodes,eO s.cs c o n,s.gen⟩)
 | t,s=>(t,s)
def Bf(p:Tr×Mm):Tr×Mm:=iU (nxT p.1 p.2).1 (nxT p.1 p.2).2
def Tr.live:Tr->Bool
 | .done _=>false
 | _=>true
def xB(p:Tr×Mm):Nat->Tr×Mm
 | 0=>p
 | k+1=>Bf (xB p k)
theorem aAc{t t':Tr}{s s':Mm}(h:Lp t s t' s'):nxT t s=(t',s')/\∀u,iU t u=(t,u):=by
 cases h with
 | load c k s=>exact⟨rfl,λ _=>rfl⟩
 | kI c o n k s b hb=>rw[Uv hb];exact⟨rfl,λ _=>rfl⟩
theorem iu{t t':Tr}{s s':Mm}(h:Sp t s t' s'):iU t s=iU t' s':=by
 cases h<;>rfl
theorem Z9{j:Nat}{t t':Tr}{s s':Mm}(h:Rc j t s t' s'):(j=0->iU t s=iU t' s')/\(j=1->Bf (iU t s)=iU t' s'):=by
 induction h with
 | refl t s=>exact⟨λ _=>rfl,λ h=>nomatch h⟩
 | iU _ hs ih=>exact⟨λ e=>(ih.1 e).trans (iu hs),λ e=>(ih.2 e).trans (iu hs)⟩
 | loud _ hs ih =>
  refine⟨(λ e=>nomatch e),λ e=>?_⟩
  obtain⟨h1,h2⟩:=aAc hs
  rw[ih.1 (by omega),h2]
  unfold Bf
  rw[h1]
end
end Go.Ct
namespace Go.Proofs.YtbajmaoegmbfgaaGreat
section
open Go Go.RowKit Go.Ct
theorem Hk{t:Tr}(h:eE t=true)(s:Mm):iU t s=(t,s):=by
 cases t<;>first|rfl|cases h
theorem wq{t t':Tr}{s s':Mm}(h:Rc 0 t s t' s')(ha:eE t'=true):iU t s=(t',s'):=by rw[(Z9 h).1 rfl,Hk ha]
theorem yb{t t':Tr}{s s':Mm}(h:Rc 1 t s t' s')(h0:eE t=true)(ha:eE t'=true):Bf (t,s)=(t',s'):=by rw[<- Hk h0 s,(Z9 h).2 rfl,Hk ha]
abbrev dS(a:AS):Obj:=aO a.L a.cs a.gen a.acc a.pn a.cn a.pc a.cc
abbrev dZ(a:AS):List Ow:=mW a.L a.cs a.pn a.cn a.pc a.cc
def Ay(b:Nat)(R:Cd->Mm->Fr->Prop)(a:AS)(B:Fr)(D:List Nat)(w:World):Ending->World->Prop:=λ e w'=>∃y:Cd×Fr×AS,e=.returned (.agg ⟨y.1.cells⟩)/\(R y.1 y.2.2.mm (y.2.1++B)/\y.2.2.Ok/\a.iD y.2.2 y.2.1)/\SF w D [(b,dS y.2.2)] [] y.2.1 (dZ y.2.2) w'
def yZ(b:Nat)(f:FuncId)(cap:List Value)(arg:List Value)(B:Fr)(s:Mm)(R:Cd->Mm->Fr->Prop):Prop :=
 ∀(a:AS) (D:List Nat) (A:Fr) (w:World),a.mm=s->a.Ok->s.Small->(∀f∈aK a.L,f∈A)->(∀f∈B,f∈A)->SF w D [(b,dS a)] A [] (dZ a) w->Calls Tryz.prog f ⟨arg++cap⟩ w (Ay b R a B D w)
def kE(b:Nat):Tr->Mm->Cd->Mm->Fr->Prop
 | .done r,s,c,s2,_=>s2=s/\c=zK r
 | .load x k,s,c,s2,B=>s2=s/\x<=9223372036854775807/\∃f cap,c=mP x f cap/\plain Tryz.prog f=true/\∀(v:Int) (s1:Mm),s.Le s1->v<=s1.nodes.length->yZ b f cap [.int .i64 v] B s1 λ c' s' B'=>kE b (k v) s1 c' s' B'
 | .kI x o n k,s,c,s2,B=>s2=s/\x<=9223372036854775807/\n<=s.nodes.length/\∃f cap,c=tV x o n f cap/\plain Tryz.prog f=true/\∀(v:Bool) (s1:Mm),s.Le s1->yZ b f cap [.bool v] B s1 λ c' s' B'=>kE b (k v) s1 c' s' B'
 | .alloc n i k,s,c,s2,B=>kE b (k ((s.nodes.length+1:Nat):Int)) (s.push n i) c s2 B
 | .cell i k,s,c,s2,B=>kE b (k ((s.cs.length+1:Nat):Int)) ⟨s.nodes,s.cs++[i],s.gen⟩ c s2 B
 | .gen k,s,c,s2,B=>kE b (k (s.gen+1)) ⟨s.nodes,s.cs,s.gen+1⟩ c s2 B
 | .node r k,s,c,s2,B=>r<=s.nodes.length/\kE b (k (dY s.nodes r)) s c s2 B
 | .stuck,_,_,_,_=>True
def zS(b:Nat)(K:Int->Tr)(s:Mm)(f:FuncId)(cap:List Value)(B:Fr):Prop:=plain Tryz.prog f=true/\∀(v:Int) (s1:Mm),s.Le s1->v<=s1.nodes.length->yZ b f cap [.int .i64 v] B s1 λ c' s' B'=>kE b (K v) s1 c' s' B'
def Sy(b:Nat)(K:Bool->Tr)(s:Mm)(f:FuncId)(cap:List Value)(B:Fr):Prop:=plain Tryz.prog f=true/\∀(v:Bool) (s1:Mm),s.Le s1->yZ b f cap [.bool v] B s1 λ c' s' B'=>kE b (K v) s1 c' s' B'
def Ts(b:Nat)(t:Tr)(s:Mm)(f:FuncId)(cap:List Value)(B:Fr):Prop:=plain Tryz.prog f=true/\∀s1:Mm,s.Le s1->yZ b f cap [] B s1 λ c' s' B'=>kE b t s1 c' s' B'
section
variable{b:Nat}{f:FuncId}{cap arg:List Value}{B B2:Fr}{s s1 s2:Mm}{t:Tr}{c:Cd}
theorem yZ.more{R R2:Cd->Mm->Fr->Prop}(h:yZ b f cap arg B s R)(hb:∀x∈B,x∈B2)(hR:∀c m C C2,(∀x∈C,x∈C2)->R c m C->R2 c m C2):yZ b f cap arg B2 s R2:=λ a D A w e1 ok hs h1 h2 hw =>
 (h a D A w e1 ok hs h1 (λ x hx=>h2 x (hb x hx)) hw).mono λ e w' ⟨y,he,⟨hr,h3⟩,hs⟩=>⟨y,he,⟨hR _ _ _ _ (λ x hx=>by
  rcases List.mem_append.1 hx with h1|h1
  ·exact List.mem_append_left _ h1
  ·exact List.mem_append_right _ (hb x h1)) hr,h3⟩,hs⟩
theorem kE.more:∀{t:Tr} {s s2:Mm} {c:Cd} {B B2:Fr},kE b t s c s2 B->(∀x∈B,x∈B2)->kE b t s c s2 B2
 | .done _,_,_,_,_,_,h,_=>h
 | .load _ k,_,_,_,_,_,⟨h0,h1,f,cap,h2,h3,h4⟩,hb=>⟨h0,h1,f,cap,h2,h3,λ v s1 l hv=>(h4 v s1 l hv).more hb λ _ _ _ _ hC h=>kE.more (t:=k v) h hC⟩
 | .kI _ _ _ k,_,_,_,_,_,⟨h0,h1,hn,f,cap,h2,h3,h4⟩,hb=>⟨h0,h1,hn,f,cap,h2,h3,λ v s1 l=>(h4 v s1 l).more hb λ _ _ _ _ hC h=>kE.more (t:=k v) h hC⟩
 | .alloc n i k,s,_,_,_,_,h,hb=>kE.more (t:=k ((s.nodes.length+1:Nat):Int)) h hb
 | .cell i k,s,_,_,_,_,h,hb=>kE.more (t:=k ((s.cs.length+1:Nat):Int)) h hb
 | .gen k,s,_,_,_,_,h,hb=>kE.more (t:=k (s.gen+1)) h hb
 | .node r k,s,_,_,_,_,h,hb=>⟨h.1,kE.more (t:=k (dY s.nodes r)) h.2 hb⟩
 | .stuck,_,_,_,_,_,_,_=>trivial
theorem zS.more{K:Int->Tr}(h:zS b K s f cap B)(hb:∀x∈B,x∈B2):zS b K s f cap B2:=⟨h.1,λ v s1 l hv=>(h.2 v s1 l hv).more hb λ _ _ _ _ hC h=>kE.more h hC⟩
theorem Sy.more{K:Bool->Tr}(h:Sy b K s f cap B)(hb:∀x∈B,x∈B2):Sy b K s f cap B2:=⟨h.1,λ v s1 l=>(h.2 v s1 l).more hb λ _ _ _ _ hC h=>kE.more h hC⟩
theorem Ts.more(h:Ts b t s f cap B)(hb:∀x∈B,x∈B2):Ts b t s f cap B2:=⟨h.1,λ s1 l=>(h.2 s1 l).more hb λ _ _ _ _ hC h=>kE.more h hC⟩
theorem zS.le{K:Int->Tr}(h:zS b K s f cap B)(l:s.Le s1):zS b K s1 f cap B:=⟨h.1,λ v s2 l2 hv=>h.2 v s2 (l.trans l2) hv⟩
theorem Sy.le{K:Bool->Tr}(h:Sy b K s f cap B)(l:s.Le s1):Sy b K s1 f cap B:=⟨h.1,λ v s2 l2=>h.2 v s2 (l.trans l2)⟩
theorem Ts.le(h:Ts b t s f cap B)(l:s.Le s1):Ts b t s1 f cap B:=⟨h.1,λ s2 l2=>h.2 s2 (l.trans l2)⟩
theorem kE.kind(h:kE b t s c s2 B)(ha:eE t=true):(c.a.k=0↔t.live=false)/\(∀r,t=.done r->c.r=r)/\(∀x,t.acc=some x->c.a=x):=by
 cases t with
 | done r=>rw[h.2];exact⟨⟨λ _=>rfl,λ _=>rfl⟩,(λ r e=>by cases e;rfl),(λ x e=>nomatch e)⟩
 | load x k =>
  obtain⟨_,_,f,cap,e,_⟩:=h
  rw[e]
  exact⟨⟨λ h=>absurd h (show(1:Int)≠0 by decide),(λ h=>nomatch h)⟩,(λ r e=>nomatch e),λ x e=>by cases e;rfl⟩
 | kI x o n k =>
  obtain⟨_,_,_,f,cap,e,_⟩:=h
  rw[e]
  exact⟨⟨λ h=>absurd h (show(2:Int)≠0 by decide),(λ h=>nomatch h)⟩,(λ r e=>nomatch e),λ x e=>by cases e;rfl⟩
 | alloc n i k=>cases ha
 | cell i k=>cases ha
 | gen k=>cases ha
 | node r k=>cases ha
 | stuck=>cases ha
theorem kE.le(h:kE b t s c s2 B)(ha:eE t=true)(l:s.Le s1):kE b t s1 c s1 B:=by
 cases t with
 | done r=>exact⟨rfl,h.2⟩
 | load x k =>
  obtain⟨_,h1,f,cap,e,hp,hk⟩:=h
  exact⟨rfl,h1,f,cap,e,hp,λ v s3 l3 hv=>hk v s3 (l.trans l3) hv⟩
 | kI x o n k =>
  obtain⟨_,h1,hn,f,cap,e,hp,hk⟩:=h
  exact⟨rfl,h1,by have:=l.len;omega,f,cap,e,hp,λ v s3 l3=>hk v s3 (l.trans l3)⟩
 | alloc n i k=>cases ha
 | cell i k=>cases ha
 | gen k=>cases ha
 | node r k=>cases ha
 | stuck=>cases ha
theorem kE.iU:∀{t:Tr} {s s2:Mm} {c:Cd} {n m:Nat},bQ t n m->kE b t s c s2 B->(iU t s).2=s2/\eE (iU t s).1=true/\kE b (iU t s).1 s2 c s2 B
 | .done _,_,_,_,_,_,_,h=>by obtain⟨rfl,h2⟩:=h;exact⟨rfl,rfl,rfl,h2⟩
 | .load _ k,_,_,_,_,_,_,h=>by obtain⟨rfl,h2⟩:=h;exact⟨rfl,rfl,rfl,h2⟩
 | .kI _ _ _ k,_,_,_,_,_,_,h=>by obtain⟨rfl,h2⟩:=h;exact⟨rfl,rfl,rfl,h2⟩
 | .alloc n i k,s,_,_,_,0,ht,h=>ht.elim
 | .alloc n i k,s,_,_,_,_+1,ht,h=>kE.iU (t:=k ((s.nodes.length+1:Nat):Int)) (ht _) h
 | .cell i k,s,_,_,_,0,ht,h=>ht.elim
 | .cell i k,s,_,_,_,_+1,ht,h=>kE.iU (t:=k ((s.cs.length+1:Nat):Int)) (ht _) h
 | .gen k,s,_,_,_,0,ht,h=>ht.elim
 | .gen k,s,_,_,_,_+1,ht,h=>kE.iU (t:=k (s.gen+1)) (ht _) h
 | .node r k,s,_,_,_,_,ht,h=>kE.iU (t:=k (dY s.nodes r)) (ht _) h.2
 | .stuck,_,_,_,_,_,ht,_=>ht.elim
end
section
variable{S:List (Nat×Value)}{w0 w:World}{M:List Nat}{H:List (Nat×Obj)}{A F:Fr}{O:List Ow}{ty:TypeId}{pos:String}{af:Array Edge}{gd:Option (Nat×Bool)}{X:Type}{V:X->Value}
theorem cMf{φ:X->Prop}{hs H':List (Nat×Obj)}{os O':List Ow}{hs' H1:X->List (Nat×Obj)}{os' O1:X->List Ow}{Fc F1:X->Fr}{A0:Fr}{is js:List Nat}{f:FuncId}{cap:List Value}{xs:List Operand}{at_:Array TypeId}{vs:List Value}{dst:Option Nat}{x:Operand}
  (hx:ev S x=.func (.func f) #[] ⟨cap⟩:=by exact rfl) (ha:qP S xs=vs:=by(repeat (first|exact cE _|(apply bU;focus ((conv=>{lhs;whnf});try exact rfl))));first|done|fail) (hp:plain Tryz.prog f=true)
  (hc:∀w,SF w (Ks hs os) hs A0 [] os w->Calls Tryz.prog f ⟨vs++cap⟩ w λ e w'=>∃x,e=.returned (V x)/\φ x/\SF w (Ks hs os) (hs' x) [] (Fc x) (os' x) w')
  (hH:lK H is hs H':=by(repeat (first|exact lK.nil|(apply lK.cons;(focus ((repeat (first|exact yG.head|apply yG.tail));done));simp only[qD])));first|done|fail)
  (hO:lK O js os O':=by(repeat (first|exact lK.nil|(apply lK.cons;(focus ((repeat (first|exact yG.head|apply yG.tail));done));simp only[qD])));first|done|fail)
  (hA:aW A F O' A0:=by exact aW.of (λ _ h=>Or.inr (Or.inl h)))
  (hl1:∀x,is.length=(hs' x).length:=by intro x;exact rfl) (hl2:∀x,js.length=(os' x).length:=by intro x;exact rfl)
  (hH1:∀x,iP is (hs' x) H'=H1 x:=by intro x;first|(simp only[iP,qU];exact rfl)|exact rfl) (hF1:∀x,Fc x++F=F1 x:=by intro x;first|(simp only[List.nil_append,List.cons_append];exact rfl)|exact rfl) (hO1:∀x,iP js (os' x) O'=O1 x:=by intro x;simp only[iP,qU,mW];exact rfl) :
  bF Tryz.prog S (SF w0 M H A F O) ⟨dst,.call {callee:=.value x,args:=⟨xs⟩,argTypes:=at_},ty,pos,af,gd⟩ X V (λ x w=>φ x/\SF w0 M (H1 x) A (F1 x) (O1 x) w) :=
 gR (ov hx hp ha) λ w hw=>(hc w (hw.pL hH hO hA)).mono λ _ _ ⟨x,he,hx,hs⟩=>⟨x,he,hx,by
  have:=hw.xR (hs':=hs' x) (Hc:=[]) (os':=os' x) (Oc:=[]) hH hO (by simpa using hs) (hl1 x) (hl2 x)
  rw[<- hH1 x,<- hF1 x,<- hO1 x]
  simpa using this⟩
end
end

/- Tasks: Done, Next, Result, Steps. -/
end Go.Proofs.YtbajmaoegmbfgaaGreat
namespace Go.Ct
section
open Go Go.RowKit
theorem SF.same{w w':World}{b:Nat}{o:Obj}(h:SF w [b] [(b,o)] [] [] [] w')(hb:w.heap[b]?=some o):St w [] [] w' :=
 ⟨h.st.os,h.st.tape,h.st.output,h.st.size,λ k hk _=>by
  by_cases e:k=b
  ·subst e;rw[h.st.has (k,o) (List.mem_singleton.2 rfl),hb]
  ·exact h.st.jZ k hk (by simpa using e),λ _ h=>(List.not_mem_nil h).elim,λ _ h=>(List.not_mem_nil h).elim,List.nodup_nil⟩
theorem SF.Vf{w:World}{b:Nat}{o:Obj}(hb:w.heap[b]?=some o):SF w [b] [(b,o)] [] [] [] w :=
 ⟨⟨rfl,rfl,rfl,Nat.le_refl _,λ _ _ _=>rfl,λ p hp=>by rw[List.mem_singleton.1 hp];exact hb,λ p hp=>by rw[List.mem_singleton.1 hp];exact .inl (List.mem_singleton.2 rfl),by simp⟩,λ _ h=>(List.not_mem_nil h).elim,λ _ h=>(List.not_mem_nil h).elim,λ _ h=>(List.not_mem_nil h).elim,by simp[Ks]⟩
end
end Go.Ct
namespace Go.Proofs.YtbajmaoegmbfgaaGreat
section
open Go Go.RowKit Go.Ct
abbrev tkC(b:Nat)(c:Cd)(n:Nat)(z:Bool):List Value:=[.iface 42 (.pointer (some ⟨b,0,none⟩)),.int .i64 c.a.k,.int .i64 c.a.c,.int .i64 c.a.o,.int .i64 c.a.n,fnV c.f,fnV c.g,.int .i64 c.r.err,.bool c.r.found,.int .u64 c.r.val,.string c.r.key,.int .i64 c.r.gH,.int .i64 c.r.ref,.int .i64 c.r.root,.bool c.r.ro,.int .i64 ((n:Nat):Int),.bool z]
abbrev tO(b:Nat)(c:Cd)(n:Nat):Obj:=.cells ⟨tkC b c n false⟩ 141 (0,0)
section
variable{D:List Nat}{A B:Fr}{L:List aS}{cs:List Int}{gen acc:Int}{pn pc:Option Addr}{cn cc b bt n:Nat}{w:World}{c:Cd}
theorem vV(h:w.heap[bt]?=some (tO b c n)):Calls Tryz.prog 33 #[.pointer (some ⟨bt,0,none⟩)] w λ e w'=>e=.returned (.bool (c.a.k==0))/\St w [] [] w':=by
 refine enter Tryz.func33 Tryz.ntmps33 rfl rfl (SF.Vf h) ?_
 simp only[bX]
 refine cR ?_;refine E0 ?_;refine aE ?_;refine J3 ?_;refine Qq ?_
 refine aR Tryz.results33 (λ w hw=>?_)
 exact⟨rfl,hw.aU.same h⟩
theorem I4(h:w.heap[bt]?=some (tO b c n)):Calls Tryz.prog 63 #[.pointer (some ⟨bt,0,none⟩)] w λ e w'=>e=.returned (.int .i64 ((n:Nat):Int))/\St w [] [] w':=by
 refine enter Tryz.func63 Tryz.ntmps63 rfl rfl (SF.Vf h) ?_
 simp only[bX]
 refine cR ?_;refine kO ?_;refine J1 ?_
 refine aR Tryz.results63 (λ w hw=>?_)
 exact⟨rfl,hw.aU.same h⟩
theorem fy (h:w.heap[bt]?=some (tO b c n)):Calls Tryz.prog 133 #[.pointer (some ⟨bt,0,none⟩)] w fun e w'=>e=.returned (.tuple #[.agg ⟨(if c.a.k=0 then Ac.zero else c.a).cells⟩,.bool (c.a.k != 0)])∧St w [] [] w':=by
 refine enter Tryz.func133 Tryz.ntmps133 rfl rfl (SF.Vf h) ?_
 simp only [bX]
 refine J0 ?_;refine aI (fun x2=>?_);refine hZ ?_;refine J2 ?_;refine aP (cV (hc:=fun w1 hw=>vV (hw.st.at cN))) (fun x5=>?_);refine aG ?_
 refine bC (fun c5=>?_) (fun c5=>?_)
 ·refine J0 ?_;refine bG ?_;refine yA ?_
  refine bB Tryz.results133 (fun w hw=>?_)
  refine⟨?_,hw.aU.same h⟩
  rw [if_pos (by simpa using c5),show (c.a.k != 0)=false by simpa using c5]
  rfl
 ·refine aX ?_;refine E0 ?_;refine aE ?_;refine aB (aN (k:=4) (vs:=c.a.cells) rf cN dI rfl rfl) rfl ?_;refine yA ?_
  refine bB Tryz.results133 (fun w hw=>?_)
  refine⟨?_,hw.aU.same h⟩
  rw [if_neg (by simpa using c5),show (c.a.k != 0)=true by simpa using c5]
  rfl
theorem Sa(h:w.heap[bt]?=some (tO b c n)):Calls Tryz.prog 34 #[.pointer (some ⟨bt,0,none⟩)] w λ e w'=>e=.returned (.agg ⟨(if c.a.k=0 then c.r else Rs.zero).cells⟩)/\St w [] [] w':=by
 refine enter Tryz.func34 Tryz.ntmps34 rfl rfl (SF.Vf h) ?_
 simp only[bX]
 refine J0 ?_;refine aI (λ x2=>?_);refine aG ?_;refine kY ?_;refine aP (cV (hc:=λ w1 hw=>vV (hw.st.at cN))) (λ x4=>?_);refine oK ?_
 refine bC (λ c5=>?_) (λ c5=>?_)
 ·refine J0 ?_;refine uO ?_
  refine bB Tryz.results34 (λ w hw=>?_)
  refine⟨?_,hw.aU.same h⟩
  rw[if_neg (by simpa using c5)]
  rfl
 ·refine aX ?_;refine E0 ?_;refine aE ?_;refine aB (aN (k:=8) (vs:=c.r.cells) rf cN dI rfl rfl) rfl ?_;refine J5 ?_
  refine bB Tryz.results34 (λ w hw=>?_)
  refine⟨?_,hw.aU.same h⟩
  rw[if_pos (by simpa using c5)]
  rfl
end
end

/- Tasks on an arena: how they begin, how they go on. -/
end Go.Proofs.YtbajmaoegmbfgaaGreat
namespace Go.Ct
section
open Go Go.RowKit
abbrev AS.Xv(a:AS)(cs:List Int):AS:={a with cs:=cs,acc:=up a.acc}
theorem AS.Ok.Xv{a:AS}(ok:a.Ok){x o n:Int}(hn:n<=a.mm.nodes.length):(a.Xv (eO a.cs x o n)).Ok:=⟨ok.fit,ok.mo.kI hn⟩
end
end Go.Ct
namespace Go.Proofs.YtbajmaoegmbfgaaGreat
section
open Go Go.RowKit Go.Ct
section
variable{D:List Nat}{A B:Fr}{a:AS}{b bt n:Nat}{w:World}{c:Cd}{t:Tr}{f:FuncId}{cap:List Value}
theorem j7(h:Ts b t a.mm f cap B)(ok:a.Ok)(hm:a.mm.Small)(hA:∀f∈aK a.L,f∈A)(hB:∀x∈B,x∈A)(hs:SF w D [(b,dS a)] A [] (dZ a) w) :
  Calls Tryz.prog 118 #[.func (.func f) #[] ⟨cap⟩] w (Ay b (λ c' s' B'=>kE b t a.mm c' s' B') a B D w):=by
 obtain⟨hp,h⟩:=h
 refine Rt Tryz.func118 Tryz.ntmps118 rfl rfl hs ?_
 simp only[bX]
 refine fS ?_;refine dL ?_;refine vP (λ x2=>?_);refine iG ?_;refine fS ?_;refine dL ?_;(refine gI (bY (by(repeat (first|exact cE _|(apply bU;focus ((conv=>{lhs;whnf});try exact rfl))));done)) rfl ?_);refine G9 rfl ?_;refine iG ?_;refine fS ?_;refine fS ?_;refine dL ?_;refine oU ?_;refine gI (K9 rf rf (aAC _ _ _)) rfl ?_;refine iG ?_
 refine Kc (λ c5=>?_) (λ c5=>?_)
 ·exact nv c5
 ·revert c5;(skip);intro c5
  refine Eb ?_;refine fS ?_;refine dL ?_;refine oU ?_;refine Aa (cMf (V:=λ y:Cd×Fr×AS=>.agg ⟨y.1.cells⟩) (hs:=[(b,dS a)]) (os:=dZ a) (hs':=λ y=>[(b,dS y.2.2)]) (os':=λ y=>dZ y.2.2) (Fc:=λ y=>y.2.1) (A0:=A) (f:=f) (cap:=cap) (vs:=[]) (hp:=hp) (hc:=λ w1 hw=>h a.mm (Mm.Le.refl _) a _ A w1 rfl ok hm hA hB hw)) (λ x8 h8=>?_);refine K3 (gK λ _=>bA rf cN rf (cK _) dI rf jB) (λ _=>?_);refine iG ?_
  refine Fu (Tg _) (by kernel_rfl) Tryz.results118 (.cell rf cN dI .nil) (λ w hw=>?_)
  exact⟨x8,rfl,h8,hw.ret (by repeat (first|exact List.Sublist.refl _|apply List.Sublist.cons)) (aY.iB λ f hf=>by simpa using hf) (List.Sublist.refl _)⟩
theorem E8{x:Int}{k:Int->Tr}(hr:kE b (.load x k) a.mm c a.mm B)(ok:a.Ok)(hm:a.mm.Small)(hA:∀f∈aK a.L,f∈A)(hB:∀x∈B,x∈A)(hs:SF w D [(b,dS a)] A [] (dZ a) w) :
  Calls Tryz.prog 86 #[.iface 42 (.pointer (some ⟨b,0,none⟩)),.agg ⟨c.cells⟩] w (Ay b (λ c' s' B'=>kE b (k (bV a.cs x)) a.mm c' s' B') a B D w):=by
 obtain⟨_,hx,f,cap,rfl,hp,hk⟩:=hr
 have hl:a.cs.length<=274877906944:=by have:=hm.2;show a.mm.cs.length<=_;omega
 have hv:bV a.cs x<=a.mm.nodes.length:=ok.mo.cell x
 refine Rt Tryz.func86 Tryz.ntmps86 rfl rfl hs ?_
 simp only[bX]
 refine fS ?_;refine dL ?_;refine ai (λ x3=>?_);refine vP (λ x4=>?_);refine iG ?_;refine fS ?_;refine dL ?_;(refine gI (bY (by(repeat (first|exact cE _|(apply bU;focus ((conv=>{lhs;whnf});try exact rfl))));done)) rfl ?_);refine G9 rfl ?_;refine iG ?_;refine fS ?_;refine dL ?_;refine eM ?_;refine gI (aN (k:=4) (vs:=(mP x f cap).a.cells) rf cN dI rfl rfl) rfl ?_;refine vP (λ x5=>?_);refine Qc (λ _=>?_);refine iG ?_;refine fS ?_;refine fS ?_;refine dL ?_;refine eM ?_;refine nC ?_;refine dy ?_;refine iG ?_
 refine Kc (λ c13=>?_) (λ c13=>?_)
 ·revert c13;(refine cv1 ?_);intro c13
  refine fS ?_;refine dL ?_;refine zD (λ _=>?_);refine iG ?_;refine fS ?_;refine fS ?_;refine dL ?_;refine oU ?_;refine gI (Vp rf rf (Co _)) rfl ?_;refine iG ?_
  refine Kc (λ c15=>?_) (λ c15=>?_)
  ·revert c15;(skip);intro c15
   refine dL ?_;refine oU ?_;refine eM ?_;refine nC ?_;refine Aa (ze (V:=λ _:Unit=>.int .i64 (bV a.cs x)) (os':=λ _=>dZ (a.Xv a.cs)) (hs':=λ _=>[(b,dS (a.Xv a.cs))]) (Fc:=λ _=>[]) (A0:=A) (hm:=λ w=>ic _ _ w) (hc:=λ w hw=>U7 hw x hx hl)) (λ x19 h19=>?_);refine zD (λ _=>?_);refine iG ?_;refine fS ?_;refine fS ?_;refine dL ?_;refine eM ?_;refine nC ?_;refine gI (K9 rf rf (aAZ _ _ _)) rfl ?_;refine iG ?_
   refine Kc (λ c22=>?_) (λ c22=>?_)
   ·exact nv c22
   ·revert c22;(skip);intro c22
    refine Eb ?_;refine fS ?_;refine dL ?_;refine eM ?_;refine nC ?_;refine oU ?_;refine Aa (cMf (V:=λ y:Cd×Fr×AS=>.agg ⟨y.1.cells⟩) (hs:=[(b,dS (a.Xv a.cs))]) (os:=dZ (a.Xv a.cs)) (hs':=λ y=>[(b,dS y.2.2)]) (os':=λ y=>dZ y.2.2) (Fc:=λ y=>y.2.1) (A0:=A) (f:=f) (cap:=cap) (vs:=[.int .i64 (bV a.cs x)]) (hp:=hp) (hc:=λ w1 hw=>hk (bV a.cs x) a.mm (Mm.Le.refl _) hv (a.Xv a.cs) _ A w1 rfl ⟨ok.fit,ok.mo⟩ hm hA hB hw)) (λ x27 h27=>?_);refine K3 (gK λ _=>bA rf cN rf (cK _) dI rf jB) (λ _=>?_);refine iG ?_
    refine Fu (yK _) (by kernel_rfl) Tryz.results86 (.cell rf cN dI .nil) (λ w hw=>?_)
    exact⟨x27,rfl,⟨h27.1,h27.2.1,⟨h27.2.2.le,h27.2.2.fam⟩⟩,hw.ret (by repeat (first|exact List.Sublist.refl _|apply List.Sublist.cons)) (aY.iB λ f hf=>by simpa using hf) (List.Sublist.refl _)⟩
  ·exact nv c15
 ·revert c13;(refine cv2 ?_);intro c13
  exact(c13 rfl).elim
theorem Iw{x o n:Int}{k:Bool->Tr}(hr:kE b (.kI x o n k) a.mm c a.mm B)(ok:a.Ok)(hm:a.mm.Small)(hA:∀f∈aK a.L,f∈A)(hB:∀x∈B,x∈A)(hs:SF w D [(b,dS a)] A [] (dZ a) w) :
  Calls Tryz.prog 86 #[.iface 42 (.pointer (some ⟨b,0,none⟩)),.agg ⟨c.cells⟩] w (Ay b (λ c' s' B'=>kE b (k (k9 a.cs x o)) ⟨a.mm.nodes,eO a.cs x o n,a.gen⟩ c' s' B') a B D w):=by
 obtain⟨_,hx,hn,f,cap,rfl,hp,hk⟩:=hr
 have hl:a.cs.length<=274877906944:=by have:=hm.2;show a.mm.cs.length<=_;omega
 have hle:a.mm.Le ⟨a.mm.nodes,eO a.cs x o n,a.gen⟩:=⟨⟨[],by simp⟩,by show a.cs.length<=(eO a.cs x o n).length;rw[hJ];exact Nat.le_refl _⟩
 have hm2:Mm.Small ⟨a.mm.nodes,eO a.cs x o n,a.gen⟩:=⟨hm.1,by show(eO a.cs x o n).length<=_;rw[hJ];exact hm.2⟩
 refine Rt Tryz.func86 Tryz.ntmps86 rfl rfl hs ?_
 simp only[bX]
 refine fS ?_;refine dL ?_;refine ai (λ x3=>?_);refine vP (λ x4=>?_);refine iG ?_;refine fS ?_;refine dL ?_;(refine gI (bY (by(repeat (first|exact cE _|(apply bU;focus ((conv=>{lhs;whnf});try exact rfl))));done)) rfl ?_);refine G9 rfl ?_;refine iG ?_;refine fS ?_;refine dL ?_;refine eM ?_;refine gI (aN (k:=4) (vs:=(tV x o n f cap).a.cells) rf cN dI rfl rfl) rfl ?_;refine vP (λ x5=>?_);refine Qc (λ _=>?_);refine iG ?_;refine fS ?_;refine fS ?_;refine dL ?_;refine eM ?_;refine nC ?_;refine dy ?_;refine iG ?_
 refine Kc (λ c13=>?_) (λ c13=>?_)
 ·revert c13;(refine cv1 ?_);intro c13
  exact absurd (show(2:Int)=1 from c13) (by decide)
 ·revert c13;(refine cv2 ?_);intro c13
  refine Eb ?_;refine fS ?_;refine dL ?_;refine oU ?_;refine gI (Vp rf rf (Co _)) rfl ?_;refine oU ?_
  (refine wC ?_;refine oU ?_)
  ((refine wC ?_;refine eM ?_));((refine wC ?_;refine nC ?_));((refine wC ?_;refine eM ?_));((refine wC ?_;refine nC ?_));((refine wC ?_;refine eM ?_));((refine wC ?_;refine nC ?_));((refine wC ?_;refine Aa (ze (V:=Value.bool) (os':=λ _=>dZ (a.Xv (eO a.cs x o n))) (hs':=λ _=>[(b,dS (a.Xv (eO a.cs x o n)))]) (Fc:=λ _=>[]) (A0:=A) (hm:=λ w=>nu _ _ _ _ w) (hc:=λ w hw=>xx hw x o n hx hl)) (λ x38 h38=>?_)));refine qx ?_;refine zD (λ _=>?_);refine iG ?_;refine fS ?_;refine fS ?_;refine dL ?_;refine eM ?_;refine nC ?_;refine gI (K9 rf rf (aAn _ _ _)) rfl ?_;refine iG ?_
  refine Kc (λ c42=>?_) (λ c42=>?_)
  ·exact nv c42
  ·revert c42;(skip);intro c42
   refine Eb ?_;refine fS ?_;refine dL ?_;refine eM ?_;refine nC ?_;refine oU ?_;refine Aa (cMf (V:=λ y:Cd×Fr×AS=>.agg ⟨y.1.cells⟩) (hs:=[(b,dS (a.Xv (eO a.cs x o n)))]) (os:=dZ (a.Xv (eO a.cs x o n))) (hs':=λ y=>[(b,dS y.2.2)]) (os':=λ y=>dZ y.2.2) (Fc:=λ y=>y.2.1) (A0:=A) (f:=f) (cap:=cap) (vs:=[.bool x38]) (hp:=hp) (hc:=λ w1 hw=>hk x38 _ hle (a.Xv (eO a.cs x o n)) _ A w1 rfl (ok.Xv hn) hm2 hA hB hw)) (λ x47 h47=>?_);refine K3 (gK λ _=>bA rf cN rf (cK _) dI rf jB) (λ _=>?_);refine iG ?_
   refine Fu (yK _) (by kernel_rfl) Tryz.results86 (.cell rf cN dI .nil) (λ w hw=>?_)
   exact⟨x47,rfl,⟨Uv h38▸h47.1,h47.2.1,⟨hle.trans h47.2.2.le,h47.2.2.fam⟩⟩,hw.ret (by repeat (first|exact List.Sublist.refl _|apply List.Sublist.cons)) (aY.iB λ f hf=>by simpa using hf) (List.Sublist.refl _)⟩
def mH(b:Nat)(p:Tr×Mm)(a:AS)(B:Fr)(y:Cd×Fr×AS):Prop:=(kE b p.1 p.2 y.1 p.2 (y.2.1++B)/\y.2.2.mm=p.2)/\y.2.2.Ok/\a.iD y.2.2 y.2.1
theorem mH.of{t0:Tr}{s0:Mm}{y:Cd×Fr×AS}{i m:Nat}(ht:bQ t0 i m)(h:kE b t0 s0 y.1 y.2.2.mm (y.2.1++B)/\y.2.2.Ok/\a.iD y.2.2 y.2.1):mH b (Ct.iU t0 s0) a B y/\eE (Ct.iU t0 s0).1=true:=by
 obtain⟨h1,h2,h3⟩:=kE.iU ht h.1
 exact⟨⟨⟨by rw[h1];exact h3,h1.symm⟩,h.2⟩,h2⟩
theorem Ni{i m:Nat}(ht:bQ t (i+1) m)(ha:eE t=true)(hlv:t.live=true)(hr:kE b t a.mm c a.mm B)(ok:a.Ok)(hm:a.mm.Small)(hA:∀f∈aK a.L,f∈A)(hB:∀x∈B,x∈A)(hs:SF w D [(b,dS a)] A [] (dZ a) w) :
  Calls Tryz.prog 86 #[.iface 42 (.pointer (some ⟨b,0,none⟩)),.agg ⟨c.cells⟩] w λ e w'=>∃y:Cd×Fr×AS,e=.returned (.agg ⟨y.1.cells⟩)/\(mH b (Bf (t,a.mm)) a B y/\eE (Bf (t,a.mm)).1=true)/\SF w D [(b,dS y.2.2)] [] y.2.1 (dZ y.2.2) w':=by
 cases t with
 | done r=>cases hlv
 | load x k=>exact(E8 hr ok hm hA hB hs).mono λ e w' ⟨y,he,h,hw⟩=>⟨y,he,mH.of (ht _) h,hw⟩
 | kI x o n k=>exact(Iw hr ok hm hA hB hs).mono λ e w' ⟨y,he,h,hw⟩=>⟨y,he,mH.of (ht _) h,hw⟩
 | alloc n i k=>cases ha
 | cell i k=>cases ha
 | gen k=>cases ha
 | node r k=>cases ha
 | stuck=>cases ha
theorem I9{i m:Nat}(ht:bQ t (i+1) m)(ha:eE t=true)(hlv:t.live=true)(hr:kE b t a.mm c a.mm B)(ok:a.Ok)(hm:a.mm.Small)(hn:n<1000000000)(hA:∀f∈aK a.L,f∈A)(hB:∀x∈B,x∈A)(hs:SF w D [(bt,tO b c n),(b,dS a)] A [] (dZ a) w) :
  Calls Tryz.prog 37 #[.pointer (some ⟨bt,0,none⟩)] w λ e w'=>∃y:Cd×Fr×AS,e=.returned (.tuple #[])/\(mH b (Bf (t,a.mm)) a B y/\eE (Bf (t,a.mm)).1=true)/\SF w D [(bt,tO b y.1 (n+1)),(b,dS y.2.2)] [] y.2.1 (dZ y.2.2) w':=by
 have hk:c.a.k≠0:=λ e=>by have:=(hr.kind ha).1.1 e;rw[hlv] at this;cases this
 refine enter Tryz.func37 Tryz.ntmps37 rfl rfl hs ?_
 simp only[bX]
 refine kY ?_;refine aP (cV (hc:=λ w1 hw=>vV (hw.st.at cN))) (λ x3=>?_);refine aA ?_
 (refine eI 4 (λ g4=>?_) (λ g4=>?_)<;>(try (exfalso;omega))<;>((refine aF ?_;refine aA ?_)))
 ((refine aF ?_;refine dD ?_));refine J6 ?_;refine cJ ?_;refine aG ?_
 refine bC (λ c9=>?_) (λ c9=>?_)
 ·exact nv c9
 ·try (exfalso;omega)
  refine aX ?_;refine J13 ?_;refine uP ?_;refine kO ?_;refine Hq ?_;refine Mw ?_;refine aT ?_;refine gF [0,1,2,3,4,5,6,7,8,9,10,11,12] ?_;refine U2 ?_;refine J9 ?_;refine bS (i:=8) (hq:=(aN (k:=14) (vs:=c.cells) rf cN dI rfl rfl)) (h:=?_);refine aZ (i:=9) (hq:=(cM (V:=λ y:Cd×Fr×AS=>.agg ⟨y.1.cells⟩) (Fc:=λ y=>y.2.1) (hs:=[(b,dS a)]) (os:=dZ a) (A0:=A) (hs':=λ y=>[(b,dS y.2.2)]) (os':=λ y=>dZ y.2.2) (hc:=λ w hw=>Ni ht ha hlv hr ok hm hA hB hw))) (h:=λ x29 h29=>?_);refine J4 ?_;refine lC (i:=12) (hq:=(gK λ _=>lH (off:=1) (vs:=x29.1.cells) (cs:=tkC b x29.1 (n+1) true) rf cN rf (cK _) dI (Nat.le_of_ble_eq_true rfl) rf jB)) (h:=λ _=>?_);refine eA ?_;refine zL ?_;refine Mw ?_
  refine Dw Tryz.results37 (λ w hw=>?_)
  exact⟨x29,rfl,h29,hw.ret (List.Sublist.refl _) (aY.iB λ f hf=>by simpa using hf) (List.Sublist.refl _)⟩
theorem Z7{i m:Nat}(ht:bQ t i m)(h:Ts b t a.mm f cap B)(ok:a.Ok)(hm:a.mm.Small)(hA:∀f∈aK a.L,f∈A)(hB:∀x∈B,x∈A)(hs:SF w D [(b,dS a)] A [] (dZ a) w) :
  Calls Tryz.prog 73 #[.iface 42 (.pointer (some ⟨b,0,none⟩)),.func (.func f) #[] ⟨cap⟩] w λ e w'=>∃x:Nat×Cd×Fr×AS,e=.returned (.pointer (some ⟨x.1,0,none⟩))/\(mH b (Ct.iU t a.mm) a B x.2/\eE (Ct.iU t a.mm).1=true)/\SF w D [(x.1,tO b x.2.1 0),(b,dS x.2.2.2)] [] x.2.2.1 (dZ x.2.2.2) w':=by
 refine enter Tryz.func73 Tryz.ntmps73 rfl rfl hs ?_
 simp only[bX]
 refine cR ?_;refine J2 ?_;refine bG ?_;refine bL (λ x8=>?_);refine xZ ?_;refine aC (cM (V:=λ y:Cd×Fr×AS=>.agg ⟨y.1.cells⟩) (Fc:=λ y=>y.2.1) (hs:=[(b,dS a)]) (os:=dZ a) (A0:=A) (hs':=λ y=>[(b,dS y.2.2)]) (os':=λ y=>dZ y.2.2) (hc:=λ w1 hw=>j7 h ok hm hA hB hw)) (λ x11 h11=>?_);refine Lv ?_;refine bW (gK λ _=>lH (off:=1) (vs:=x11.1.cells) (cs:=tkC b x11.1 0 false) rf cN rf (cK _) dI (Nat.le_of_ble_eq_true rfl) rf jB) (λ _=>?_);refine aG ?_;refine J2 ?_;refine J1 ?_
 refine aR Tryz.results73 (λ w hw=>?_)
 exact⟨(x8,x11),rfl,mH.of ht h11,hw.ret (List.Sublist.refl _) (aY.iB λ f hf=>by simpa using hf) (List.Sublist.refl _)⟩
end
end

end Go.Proofs.YtbajmaoegmbfgaaGreat
