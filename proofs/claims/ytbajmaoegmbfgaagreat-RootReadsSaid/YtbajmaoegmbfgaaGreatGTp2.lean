/- The procedures with shared cells, as trees. -/
import Derived.Test.YtbajmaoegmbfgaaGreatGVw1
import Derived.Test.YtbajmaoegmbfgaaGreatGTr3
import Derived.Test.YtbajmaoegmbfgaaGreatGAutoD
import Derived.Test.YtbajmaoegmbfgaaGreatGAr5

set_option linter.unusedSimpArgs false
set_option linter.unusedVariables false
namespace Go.Ct
section
def NI.c0(a:NI):Nv:=a.n.c a.xs a.ys
end
end Go.Ct
namespace Go.Proofs.YtbajmaoegmbfgaaGreat
section
open Go.RowKit Go.Ct
structure gY where
 root:Int
 ro:Bool
structure Cl where
 kind:Int
 t:gY
 a:Int
 b:Int
 n:Int
 index:Int
 hash:Int
 mask:Int
 key:ByteArray
 val:Int
 exp:Int
 H2:Int
 only:Bool
def gZ(h:Nat)(level:Int):Int:=if level<0∨10<level then 0 else(sl h level.toNat:Int)
def yF(p:Int):Nv:=({Nd.zero with kind:=7,bF:=p}:Nd).c [] []
def sW(g:Int):Nv:=({Nd.zero with kind:=2,gen:=g}:Nd).c [] []
def Cw(a b c:Int):Nv:=({Nd.zero with kind:=8,bF:=a,exp:=b,new:=c}:Nd).c [] []
def Gh(h:Int)(k:ByteArray)(u:Int):Nv:=({Nd.zero with kind:=4,hash:=h,key:=k,val:=u}:Nd).c [] []
def Lf:Nv:=({Nd.zero with kind:=3}:Nd).c [] []
def w5(v s:Int)(K:Int->Tr):Tr:=.node v λ n=>K (if s=1 then n.new else n.bF)
def mV(t:gY)(v s:Int)(K:Int->Tr):Tr:=w5 v s λ w=>.kX t.root v w λ _=>K w
def Jo(t:gY)(K:Int->Tr):Tr:=.load t.root λ v=>.node v λ n=>if n.kind=2 then K v else .node v λ n=>.load n.status λ s =>
 if s=0 then .node v λ n=>.kX n.status 0 2 λ _=>.node v λ n=>.load n.status λ s=>mV t v s K else mV t v s K
def Ol(i m p:Int)(K:Int->Tr):Tr:=.node i λ ni=>.node p λ np=>.kX ni.main m np.bF λ _=>.node p λ np=>K np.bF
def jY(i m:Int)(K:Int->Tr):Tr:=.node m λ nm=>.load nm.prev λ p=>if p=0 then K m else Ol i m p K
def qW(i m p:Int)(c:Bool)(K:Int->Tr):Tr :=
 if c=true then .node m λ nm=>.kX nm.prev p 0 λ _=>jY i m K
 else .node m λ nm=>.alloc (yF p) 0 λ f=>.kX nm.prev p f λ _=>jY i m K
def sJ(t:gY)(i m:Int)(K:Int->Tr):Tr:=.node m λ nm=>.load nm.prev λ p=>if p=0 then K m else .node p λ np =>
 if eV np then(if t.ro=true then qW i m p false K else Jo t λ r=>.node r λ nr=>.node i λ ni=>qW i m p (nr.gen==ni.gen) K)
 else Ol i m p K
def nV(t:gY)(i:Int)(K:Int->Tr):Tr:=.node i λ ni=>.load ni.main λ m=>sJ t i m K
def oO(t:gY)(v:Int)(K:Tr):Tr:=.node v λ n=>nV t n.bF λ r=>.node v λ n2=>.node v λ n3=>.kX n3.status 0 (if r=n2.exp then 1 else 2) λ _=>K
def pV(t:gY)(K:Int->Tr):Tr:=.load t.root λ v=>.node v λ n=>if n.kind=2 then K v else .node v λ n=>.load n.status λ s =>
 if s=0 then oO t v (.node v λ n=>.load n.status λ s=>mV t v s K) else mV t v s K
def oB(t:gY)(i bF n:Int)(K:Bool->Tr):Tr:=.node i λ ni=>.kX ni.main bF n λ b=>if b=true then sJ t i n λ m=>K (m==n) else K false
def oI(t:gY)(bF exp new:Int)(K:Bool->Tr):Tr:=.alloc (Cw bF exp new) 0 λ d=>.kX t.root bF d λ b =>
 if b=true then oO t d (.node d λ nd=>.load nd.status λ s=>mV t d s λ _=>K (s==1)) else K false
noncomputable def Fo (c index r:Int) (K:Int->Tr):Tr:=.node c λ nc=>.alloc (ae nc index r) c K
noncomputable def K6 (t:gY) (i c index:Int) (K:Int->Tr):Tr:=.node c λ nc=>nV t ((mC nc index).getD 0) λ m=>.node i λ ni=>.alloc (sW ni.gen) m λ j =>
 Fo c index j λ r=>oB t i c r λ ok=>K (if ok=true then j else 0)
noncomputable def zG (t:gY) (parent child:Int) (h:Nat) (level:Int) (K:Bool->Tr):Tr:=nV t parent λ m=>.node m λ nm =>
 if mC nm (gZ h level)=some child then nV t child λ mc=>.node mc λ nmc =>
  if nmc.kind=5 then .alloc (xg nmc) 0 λ s=>.node m λ nm2=>.alloc (ug (ae nm2 (gZ h level) s) level (xg nmc)) m λ r=>oB t parent m r K
  else K false
 else K false
def jX(f:Bool)(v:Int):Rs:=⟨0,f,v,⟨#[]⟩,0,0,0,false⟩
def rQ(f:Bool)(v:Int):Rs:=⟨0,f,v,⟨#[]⟩,1,0,0,false⟩
noncomputable def Cf (t:gY) (h:Nat) (key:ByteArray) (K:Rs->Tr):Nat->Int->Int->Tr
 | 0,_,_=>.stuck
 | n+1,i,level=>nV t i λ mr=>.node mr λ m =>
  if m.kind=5 then(if m.key=key then K (jX true m.val) else K (jX false 0))
  else if m.kind=6 then K (jX (eN m.ys key).isSome ((eN m.ys key).getD 0))
  else match mC m (gZ h level) with
   | none=>K (jX false 0)
   | some b=>.node b λ s=>if s.kind=4 then(if s.key=key then K (jX true s.val) else K (jX false 0)) else Cf t h key K n b (level+1)
def oA(c:Cl)(found:Bool)(v:Int):Bool:=if c.H2=1 then !found else if c.H2=2 then found else if c.H2=3 then found&&v==c.exp else true
def Ag:List NI->Int->(Int->Tr)->Tr
 | [],r,K=>K r
 | a::l,_,K=>.alloc a.c0 a.init λ r=>Ag l r K
def dP(at_:Int)(h0 h:Nat)(p:Pr)(k:ByteArray)(u gen:Int)(fi lvl:Nat):List NI:=dN at_ h0 h p k u gen fi (lE h0 h-lvl) (lE h0 h-(lE h0 h-lvl))
def Sm(c:Cl)(b:Int)(h:Nat)(level:Nat)(gen:Int)(K:Int->Tr):Tr:=.node b λ nb =>
 .alloc ((dP b nb.hash.toNat h (nb.key,nb.val) c.key c.val gen 0 level).headD NI.no).c0 ((dP b nb.hash.toNat h (nb.key,nb.val) c.key c.val gen 0 level).headD NI.no).init λ f =>
 Ag (dP b nb.hash.toNat h (nb.key,nb.val) c.key c.val gen f.toNat level).tail f K
noncomputable def mJ (c:Cl) (i m:Int) (h:Nat) (level:Nat) (gen:Int) (K:Rs->Int->Tr):Tr:=.node m λ n =>
 if n.kind=6 then
  (if oA c (eN n.ys c.key).isSome ((eN n.ys c.key).getD 0)=true then
   .alloc (wa n c.key c.val) m λ r=>oB c.t i m r λ ok=>K (rQ (eN n.ys c.key).isSome ((eN n.ys c.key).getD 0)) (if ok=true then 1 else 0)
  else K (jX (eN n.ys c.key).isSome ((eN n.ys c.key).getD 0)) 1)
 else match mC n (gZ h level) with
  | none=>if oA c false 0=true then .alloc (Gh h c.key c.val) 0 λ s=>.alloc (sf n (gZ h level) s) m λ r=>oB c.t i m r λ ok=>K (rQ false 0) (if ok=true then 1 else 0) else K (jX false 0) 1
  | some b=>.node b λ nb=>if nb.kind=2 then K Rs.zero 2 else
   if nb.key=c.key then
    (if oA c true nb.val=true then .alloc (Gh h c.key c.val) 0 λ s=>Fo m (gZ h level) s λ r=>oB c.t i m r λ ok=>K (rQ true nb.val) (if ok=true then 1 else 0)
    else K (jX true nb.val) 1)
   else
    (if oA c false 0=true then Sm c b h (level+1) gen λ d=>.alloc (sW gen) d λ j=>Fo m (gZ h level) j λ r=>oB c.t i m r λ ok=>K (rQ false 0) (if ok=true then 1 else 0)
    else K (jX false 0) 1)
noncomputable def Gf (c:Cl) (i m index gen:Int) (K:Int->Tr):Tr:=.node m λ nm=>.node ((mC nm index).getD 0) λ nb=>if nb.gen=gen then K ((mC nm index).getD 0) else K6 c.t i m index K
noncomputable def Cp (c:Cl) (h:Nat) (K:Rs->Tr) (again:Tr) (gen:Int):Nat->Int->Int->Nat->Tr
 | 0,_,_,_=>.stuck
 | n+1,i,parent,level=>nV c.t i λ m=>.node m λ nm =>
  if nm.kind=5 then zG c.t parent i h ((level:Int)-1) λ _=>again
  else mJ c i m h level gen λ r what=>if what=1 then K r else if what=0 then again else
   Gf c i m (gZ h level) gen λ b=>if b=0 then again else Cp c h K again gen n b i (level+1)
noncomputable def F5 (c:Cl) (h:Nat) (K:Rs->Tr):Nat->Tr
 | 0=>.stuck
 | n+1=>pV c.t λ i=>.node i λ ni=>Cp c h K (F5 c h K n) ni.gen n i 0 0
noncomputable def kN (c:Cl) (i m:Int) (h:Nat) (level:Nat) (K:Rs->Int->Tr):Tr:=.node m λ n =>
 if n.kind=6 then
  (if(eN n.ys c.key).isSome=false∨(c.only=true/\(eN n.ys c.key).getD 0≠c.exp) then K (jX (eN n.ys c.key).isSome ((eN n.ys c.key).getD 0)) 1
  else .alloc (jz n c.key) m λ r=>oB c.t i m r λ ok=>K (rQ true ((eN n.ys c.key).getD 0)) (if ok=true then 1 else 0))
 else match mC n (gZ h level) with
  | none=>K (jX false 0) 1
  | some b=>.node b λ s=>if s.kind=2 then K Rs.zero 2 else if s.key≠c.key then K (jX false 0) 1 else if c.only=true/\s.val≠c.exp then K (jX true s.val) 1
   else .node ((Mc (Mh n (gZ h level))).getD 0) λ so=>.alloc (ug (Mh n (gZ h level)) level so) m λ r=>oB c.t i m r λ ok=>K (rQ true s.val) (if ok=true then 1 else 0)
noncomputable def qs (t:gY) (path:List Int) (h:Nat) (K:Tr):Nat->Tr
 | 0=>K
 | l+1=>nV t (path.getD (l+1) 0) λ m=>.node m λ nm=>if nm.kind=5 then zG t (path.getD l 0) (path.getD (l+1) 0) h (l:Int) λ _=>qs t path h K l else K
noncomputable def vN (c:Cl) (h:Nat) (K:Rs->Tr) (again:Tr) (gen:Int):Nat->Int->List Int->Nat->Tr
 | 0,_,_,_=>.stuck
 | n+1,i,path,level=>nV c.t i λ m=>.node m λ nm =>
  if nm.kind=5 then zG c.t (path.getD (level-1) 0) i h ((level:Int)-1) λ _=>again
  else kN c i m h level λ r what=>if what=1 then(if r.gW=1 then qs c.t path h (K r) (path.length-1) else K r) else if what=0 then again else
   Gf c i m (gZ h level) gen λ b=>if b=0 then again else vN c h K again gen n b (path++[b]) (level+1)
noncomputable def vT (c:Cl) (h:Nat) (K:Rs->Tr):Nat->Tr
 | 0=>.stuck
 | n+1=>pV c.t λ i=>.node i λ ni=>vN c h K (vT c h K n) ni.gen n i [i] 0
def Ns(root:Int)(ro:Bool):Rs:=⟨0,true,0,⟨#[]⟩,0,0,root,ro⟩
def Pm(m:Int)(K:Rs->Tr):Tr:=.gen λ g=>.alloc (sW g) m λ r=>.cell r λ c=>K (Ns c false)
def Jl(t:gY)(fz:Bool)(K:Rs->Tr):Nat->Tr
 | 0=>.stuck
 | n+1=>pV t λ r=>nV t r λ m=>.gen λ g=>.alloc (sW g) m λ j=>oI t r m j λ ok =>
  if ok=true then(if fz=true then .cell r λ c=>K (Ns c true) else Pm m K) else Jl t fz K n
def sY(t:gY)(fz:Bool)(K:Rs->Tr)(n:Nat):Tr :=
 if t.ro=true then .load t.root λ r=>if fz=true then .cell r λ c=>K (Ns c true) else nV t r λ m=>Pm m K
 else Jl t fz K n
def yS(t:gY)(K:Rs->Tr):Nat->Tr
 | 0=>.stuck
 | n+1=>pV t λ r=>nV t r λ m=>.alloc Lf 0 λ c=>.gen λ g=>.alloc (sW g) c λ j=>oI t r m j λ ok =>
  if ok=true then K (jX true 0) else yS t K n
def lV(r:Int)(f:Bool):Rs:=⟨0,f,0,⟨#[]⟩,0,r,0,false⟩
def refuse(c:Cl):Int:=if c.kind=7∨c.kind=9 then(if c.key.size<=64 then 0 else 1) else if c.kind=8 then(if c.key.size<=64/\0<=c.H2/\c.H2<=3 then 0 else 1) else 0
noncomputable def kZ (c:Cl) (h:Nat) (n:Nat):Tr :=
 if refuse c≠0 then .done {Rs.zero with err:=refuse c}
 else if c.kind=1 then nV c.t c.a λ r=>.done (lV r false)
 else if c.kind=2 then oB c.t c.a c.b c.n λ ok=>.done (lV 0 ok)
 else if c.kind=3 then pV c.t λ r=>.done (lV r false)
 else if c.kind=4 then oI c.t c.a c.b c.n λ ok=>.done (lV 0 ok)
 else if c.kind=7 then pV c.t λ i=>Cf c.t h c.key .done n i 0
 else if c.kind=8 then F5 c h .done n
 else if c.kind=9 then vT c h .done n
 else if c.kind=10 then sY c.t false .done n
 else if c.kind=11 then sY c.t true .done n
 else yS c.t .done n
end

/- Codes with a store: what they mean as trees. -/
end Go.Proofs.YtbajmaoegmbfgaaGreat
namespace Go.Ct
section
open Go Go.RowKit
structure AS where
 L:List aX
 cs:List Int
 gen:Int
 acc:Int
 pn:Option Addr
 cn:Nat
 pc:Option Addr
 cc:Nat
def AS.mm(a:AS):Mm:=⟨(dG a.L).map aX.c,a.cs,a.gen⟩
structure Xu(s:Mm):Prop where
 nd:∀v∈s.nodes,mU s.nodes.length s.cs.length v
 cs:∀v∈s.cs,v<=s.nodes.length
 two:2<=s.nodes.length
structure AS.Ok(a:AS):Prop where
 fit:Fits a.L
 mo:Xu a.mm
structure Mm.Le(s s1:Mm):Prop where
 nodes:∃N,s1.nodes=s.nodes++N
 cl:s.cs.length<=s1.cs.length
def Mm.Small(s:Mm):Prop:=s.nodes.length<=137438953472/\s.cs.length<=137438953472
structure AS.iQ(a a':AS)(F:Fr):Prop where
 le:a.mm.Le a'.mm
 fam:∀f∈aR a'.L,f.2=[]∨f∈aR a.L∨f∈F
theorem Mm.Le.refl(s:Mm):s.Le s:=⟨⟨[],by simp⟩,Nat.le_refl _⟩
theorem Mm.Le.trans{s t u:Mm}(h:s.Le t)(h2:t.Le u):s.Le u:=by
 obtain⟨⟨N,e⟩,c⟩:=h
 obtain⟨⟨M,e2⟩,c2⟩:=h2
 exact⟨⟨N++M,by rw[e2,e,List.append_assoc]⟩,Nat.le_trans c c2⟩
theorem Mm.Le.len{s t:Mm}(h:s.Le t):s.nodes.length<=t.nodes.length:=by obtain⟨N,e⟩:=h.nodes;rw[e,List.length_append];omega
theorem Mm.Le.nd{s t:Mm}(h:s.Le t){r:Int}(hr:r<=s.nodes.length):fV t.nodes r=fV s.nodes r:=by obtain⟨N,e⟩:=h.nodes;rw[e];exact Gc hr
theorem AS.iQ.refl(a:AS):a.iQ a []:=⟨Mm.Le.refl _,λ f hf=>.inr (.inl hf)⟩
theorem AS.iQ.more{a a':AS}{F F':Fr}(h:a.iQ a' F)(hs:∀f∈F,f∈F'):a.iQ a' F':=⟨h.le,λ f hf=>(h.fam f hf).imp_right λ h=>h.imp_right λ h=>hs f h⟩
theorem AS.iQ.trans{a b c:AS}{F G:Fr}(h:a.iQ b F)(h2:b.iQ c G):a.iQ c (G++F):=⟨h.le.trans h2.le,λ f hf=>by
 rcases h2.fam f hf with h1|h1|h1
 ·exact .inl h1
 ·rcases h.fam f h1 with h1|h1|h1
  ·exact .inl h1
  ·exact .inr (.inl h1)
  ·exact .inr (.inr (List.mem_append_right _ h1))
 ·exact .inr (.inr (List.mem_append_left _ h1))⟩
theorem Xu.at{s:Mm}(h:Xu s)(r:Int):mU s.nodes.length s.cs.length (fV s.nodes r):=by
 unfold fV
 split
 ·refine h.nd _ ?_
  rw[lB,List.getElem?_eq_getElem (by omega)]
  exact List.getElem_mem _
 ·exact Oi _ _
theorem Xu.cell{s:Mm}(h:Xu s)(c:Int):dA s.cs c<=s.nodes.length:=by
 unfold dA
 split
 ·exact mM h.cs _
 ·exact bM _
theorem Xu.kX{s:Mm}(h:Xu s){c o n:Int}(hn:n<=s.nodes.length):Xu ⟨s.nodes,fG s.cs c o n,s.gen⟩:=by
 refine⟨λ v hv=>by simp only[iF];exact h.nd v hv,λ v hv=>?_,h.two⟩
 simp only[fG] at hv
 split at hv
 ·rcases List.mem_or_eq_of_mem_set hv with hv|rfl
  ·exact h.cs v hv
  ·exact hn
 ·exact h.cs v hv
def jP:Tr->Mm->Tr×Mm
 | .alloc n i k,s=>jP (k ((s.nodes.length+1:Nat):Int)) (s.push n i)
 | .cell i k,s=>jP (k ((s.cs.length+1:Nat):Int)) ⟨s.nodes,s.cs++[i],s.gen⟩
 | .gen k,s=>jP (k (s.gen+1)) ⟨s.nodes,s.cs,s.gen+1⟩
 | .node r k,s=>jP (k (fV s.nodes r)) s
 | t,s=>(t,s)
def nxT:Tr->Mm->Tr×Mm
 | .load c k,s=>(k (dA s.cs c),s)
 | .kX c o n k,s=>(k (gu s.cs c o),⟨s.nodes,fG s.cs c o n,s.gen⟩)
 | t,s=>(t,s)
def A4(p:Tr×Mm):Tr×Mm:=jP (nxT p.1 p.2).1 (nxT p.1 p.2).2
def Tr.live:Tr->Bool
 | .done _=>false
 | _=>true
def wW(p:Tr×Mm):Nat->Tr×Mm
 | 0=>p
 | k+1=>A4 (wW p k)
theorem aAc{t t':Tr}{s s':Mm}(h:Lp t s t' s'):nxT t s=(t',s')/\∀u,jP t u=(t,u):=by
 cases h with
 | load c k s=>exact⟨rfl,λ _=>rfl⟩
 | kX c o n k s b hb=>rw[wI hb];exact⟨rfl,λ _=>rfl⟩
theorem Zi{t t':Tr}{s s':Mm}(h:Sp t s t' s'):jP t s=jP t' s':=by
 cases h<;>rfl
theorem fj{j:Nat}{t t':Tr}{s s':Mm}(h:Rc j t s t' s'):(j=0->jP t s=jP t' s')/\(j=1->A4 (jP t s)=jP t' s'):=by
 induction h with
 | refl t s=>exact⟨λ _=>rfl,λ h=>nomatch h⟩
 | jP _ hs ih=>exact⟨λ e=>(ih.1 e).trans (Zi hs),λ e=>(ih.2 e).trans (Zi hs)⟩
 | loud _ hs ih =>
  refine⟨(λ e=>nomatch e),λ e=>?_⟩
  obtain⟨h1,h2⟩:=aAc hs
  rw[ih.1 (by omega),h2]
  unfold A4
  rw[h1]
end
end Go.Ct
namespace Go.Proofs.YtbajmaoegmbfgaaGreat
section
open Go Go.RowKit Go.Ct
theorem Fv{t:Tr}(h:eW t=true)(s:Mm):jP t s=(t,s):=by
 cases t<;>first|rfl|cases h
theorem wb{t t':Tr}{s s':Mm}(h:Rc 0 t s t' s')(ha:eW t'=true):jP t s=(t',s'):=by rw[(fj h).1 rfl,Fv ha]
theorem s7{t t':Tr}{s s':Mm}(h:Rc 1 t s t' s')(h0:eW t=true)(ha:eW t'=true):A4 (t,s)=(t',s'):=by rw[<- Fv h0 s,(fj h).2 rfl,Fv ha]
abbrev fM(a:AS):Obj:=aO a.L a.cs a.gen a.acc a.pn a.cn a.pc a.cc
abbrev fX(a:AS):List Ow:=mW a.L a.cs a.pn a.cn a.pc a.cc
def An(b:Nat)(R:Cd->Mm->Fr->Prop)(a:AS)(B:Fr)(D:List Nat)(w:World):Ending->World->Prop:=λ e w'=>∃y:Cd×Fr×AS,e=.returned (.agg ⟨y.1.cells⟩)/\(R y.1 y.2.2.mm (y.2.1++B)/\y.2.2.Ok/\a.iQ y.2.2 y.2.1)/\SF w D [(b,fM y.2.2)] [] y.2.1 (fX y.2.2) w'
def zC(b:Nat)(f:FuncId)(cap:List Value)(arg:List Value)(B:Fr)(s:Mm)(R:Cd->Mm->Fr->Prop):Prop :=
 ∀(a:AS) (D:List Nat) (A:Fr) (w:World),a.mm=s->a.Ok->s.Small->(∀f∈aR a.L,f∈A)->(∀f∈B,f∈A)->SF w D [(b,fM a)] A [] (fX a) w->Calls Tryz.prog f ⟨arg++cap⟩ w (An b R a B D w)
def kW(b:Nat):Tr->Mm->Cd->Mm->Fr->Prop
 | .done r,s,c,s2,_=>s2=s/\c=yT r
 | .load x k,s,c,s2,B=>s2=s/\x<=9223372036854775807/\∃f cap,c=nJ x f cap/\plain Tryz.prog f=true/\∀(v:Int) (s1:Mm),s.Le s1->v<=s1.nodes.length->zC b f cap [.int .i64 v] B s1 λ c' s' B'=>kW b (k v) s1 c' s' B'
 | .kX x o n k,s,c,s2,B=>s2=s/\x<=9223372036854775807/\n<=s.nodes.length/\∃f cap,c=tY x o n f cap/\plain Tryz.prog f=true/\∀(v:Bool) (s1:Mm),s.Le s1->zC b f cap [.bool v] B s1 λ c' s' B'=>kW b (k v) s1 c' s' B'
 | .alloc n i k,s,c,s2,B=>kW b (k ((s.nodes.length+1:Nat):Int)) (s.push n i) c s2 B
 | .cell i k,s,c,s2,B=>kW b (k ((s.cs.length+1:Nat):Int)) ⟨s.nodes,s.cs++[i],s.gen⟩ c s2 B
 | .gen k,s,c,s2,B=>kW b (k (s.gen+1)) ⟨s.nodes,s.cs,s.gen+1⟩ c s2 B
 | .node r k,s,c,s2,B=>r<=s.nodes.length/\kW b (k (fV s.nodes r)) s c s2 B
 | .stuck,_,_,_,_=>True
def zN(b:Nat)(K:Int->Tr)(s:Mm)(f:FuncId)(cap:List Value)(B:Fr):Prop:=plain Tryz.prog f=true/\∀(v:Int) (s1:Mm),s.Le s1->v<=s1.nodes.length->zC b f cap [.int .i64 v] B s1 λ c' s' B'=>kW b (K v) s1 c' s' B'
def Ru(b:Nat)(K:Bool->Tr)(s:Mm)(f:FuncId)(cap:List Value)(B:Fr):Prop:=plain Tryz.prog f=true/\∀(v:Bool) (s1:Mm),s.Le s1->zC b f cap [.bool v] B s1 λ c' s' B'=>kW b (K v) s1 c' s' B'
def Sn(b:Nat)(t:Tr)(s:Mm)(f:FuncId)(cap:List Value)(B:Fr):Prop:=plain Tryz.prog f=true/\∀s1:Mm,s.Le s1->zC b f cap [] B s1 λ c' s' B'=>kW b t s1 c' s' B'
section
variable{b:Nat}{f:FuncId}{cap arg:List Value}{B B2:Fr}{s s1 s2:Mm}{t:Tr}{c:Cd}
theorem zC.more{R R2:Cd->Mm->Fr->Prop}(h:zC b f cap arg B s R)(hb:∀x∈B,x∈B2)(hR:∀c m C C2,(∀x∈C,x∈C2)->R c m C->R2 c m C2):zC b f cap arg B2 s R2:=λ a D A w e1 ok hs h1 h2 hw =>
 (h a D A w e1 ok hs h1 (λ x hx=>h2 x (hb x hx)) hw).mono λ e w' ⟨y,he,⟨hr,h3⟩,hs⟩=>⟨y,he,⟨hR _ _ _ _ (λ x hx=>by
  rcases List.mem_append.1 hx with h1|h1
  ·exact List.mem_append_left _ h1
  ·exact List.mem_append_right _ (hb x h1)) hr,h3⟩,hs⟩
theorem kW.more:∀{t:Tr} {s s2:Mm} {c:Cd} {B B2:Fr},kW b t s c s2 B->(∀x∈B,x∈B2)->kW b t s c s2 B2
 | .done _,_,_,_,_,_,h,_=>h
 | .load _ k,_,_,_,_,_,⟨h0,h1,f,cap,h2,h3,h4⟩,hb=>⟨h0,h1,f,cap,h2,h3,λ v s1 l hv=>(h4 v s1 l hv).more hb λ _ _ _ _ hC h=>kW.more (t:=k v) h hC⟩
 | .kX _ _ _ k,_,_,_,_,_,⟨h0,h1,hn,f,cap,h2,h3,h4⟩,hb=>⟨h0,h1,hn,f,cap,h2,h3,λ v s1 l=>(h4 v s1 l).more hb λ _ _ _ _ hC h=>kW.more (t:=k v) h hC⟩
 | .alloc n i k,s,_,_,_,_,h,hb=>kW.more (t:=k ((s.nodes.length+1:Nat):Int)) h hb
 | .cell i k,s,_,_,_,_,h,hb=>kW.more (t:=k ((s.cs.length+1:Nat):Int)) h hb
 | .gen k,s,_,_,_,_,h,hb=>kW.more (t:=k (s.gen+1)) h hb
 | .node r k,s,_,_,_,_,h,hb=>⟨h.1,kW.more (t:=k (fV s.nodes r)) h.2 hb⟩
 | .stuck,_,_,_,_,_,_,_=>trivial
theorem zN.more{K:Int->Tr}(h:zN b K s f cap B)(hb:∀x∈B,x∈B2):zN b K s f cap B2:=⟨h.1,λ v s1 l hv=>(h.2 v s1 l hv).more hb λ _ _ _ _ hC h=>kW.more h hC⟩
theorem Ru.more{K:Bool->Tr}(h:Ru b K s f cap B)(hb:∀x∈B,x∈B2):Ru b K s f cap B2:=⟨h.1,λ v s1 l=>(h.2 v s1 l).more hb λ _ _ _ _ hC h=>kW.more h hC⟩
theorem Sn.more(h:Sn b t s f cap B)(hb:∀x∈B,x∈B2):Sn b t s f cap B2:=⟨h.1,λ s1 l=>(h.2 s1 l).more hb λ _ _ _ _ hC h=>kW.more h hC⟩
theorem zN.le{K:Int->Tr}(h:zN b K s f cap B)(l:s.Le s1):zN b K s1 f cap B:=⟨h.1,λ v s2 l2 hv=>h.2 v s2 (l.trans l2) hv⟩
theorem Ru.le{K:Bool->Tr}(h:Ru b K s f cap B)(l:s.Le s1):Ru b K s1 f cap B:=⟨h.1,λ v s2 l2=>h.2 v s2 (l.trans l2)⟩
theorem Sn.le(h:Sn b t s f cap B)(l:s.Le s1):Sn b t s1 f cap B:=⟨h.1,λ s2 l2=>h.2 s2 (l.trans l2)⟩
theorem kW.kind(h:kW b t s c s2 B)(ha:eW t=true):(c.a.k=0↔t.live=false)/\(∀r,t=.done r->c.r=r)/\(∀x,t.acc=some x->c.a=x):=by
 cases t with
 | done r=>rw[h.2];exact⟨⟨λ _=>rfl,λ _=>rfl⟩,(λ r e=>by cases e;rfl),(λ x e=>nomatch e)⟩
 | load x k =>
  obtain⟨_,_,f,cap,e,_⟩:=h
  rw[e]
  exact⟨⟨λ h=>absurd h (show(1:Int)≠0 by decide),(λ h=>nomatch h)⟩,(λ r e=>nomatch e),λ x e=>by cases e;rfl⟩
 | kX x o n k =>
  obtain⟨_,_,_,f,cap,e,_⟩:=h
  rw[e]
  exact⟨⟨λ h=>absurd h (show(2:Int)≠0 by decide),(λ h=>nomatch h)⟩,(λ r e=>nomatch e),λ x e=>by cases e;rfl⟩
 | alloc n i k=>cases ha
 | cell i k=>cases ha
 | gen k=>cases ha
 | node r k=>cases ha
 | stuck=>cases ha
theorem kW.le(h:kW b t s c s2 B)(ha:eW t=true)(l:s.Le s1):kW b t s1 c s1 B:=by
 cases t with
 | done r=>exact⟨rfl,h.2⟩
 | load x k =>
  obtain⟨_,h1,f,cap,e,hp,hk⟩:=h
  exact⟨rfl,h1,f,cap,e,hp,λ v s3 l3 hv=>hk v s3 (l.trans l3) hv⟩
 | kX x o n k =>
  obtain⟨_,h1,hn,f,cap,e,hp,hk⟩:=h
  exact⟨rfl,h1,by have:=l.len;omega,f,cap,e,hp,λ v s3 l3=>hk v s3 (l.trans l3)⟩
 | alloc n i k=>cases ha
 | cell i k=>cases ha
 | gen k=>cases ha
 | node r k=>cases ha
 | stuck=>cases ha
theorem kW.jP:∀{t:Tr} {s s2:Mm} {c:Cd} {n m:Nat},bY t n m->kW b t s c s2 B->(jP t s).2=s2/\eW (jP t s).1=true/\kW b (jP t s).1 s2 c s2 B
 | .done _,_,_,_,_,_,_,h=>by obtain⟨rfl,h2⟩:=h;exact⟨rfl,rfl,rfl,h2⟩
 | .load _ k,_,_,_,_,_,_,h=>by obtain⟨rfl,h2⟩:=h;exact⟨rfl,rfl,rfl,h2⟩
 | .kX _ _ _ k,_,_,_,_,_,_,h=>by obtain⟨rfl,h2⟩:=h;exact⟨rfl,rfl,rfl,h2⟩
 | .alloc n i k,s,_,_,_,0,ht,h=>ht.elim
 | .alloc n i k,s,_,_,_,_+1,ht,h=>kW.jP (t:=k ((s.nodes.length+1:Nat):Int)) (ht _) h
 | .cell i k,s,_,_,_,0,ht,h=>ht.elim
 | .cell i k,s,_,_,_,_+1,ht,h=>kW.jP (t:=k ((s.cs.length+1:Nat):Int)) (ht _) h
 | .gen k,s,_,_,_,0,ht,h=>ht.elim
 | .gen k,s,_,_,_,_+1,ht,h=>kW.jP (t:=k (s.gen+1)) (ht _) h
 | .node r k,s,_,_,_,_,ht,h=>kW.jP (t:=k (fV s.nodes r)) (ht _) h.2
 | .stuck,_,_,_,_,_,ht,_=>ht.elim
end
section
variable{S:List (Nat×Value)}{w0 w:World}{M:List Nat}{H:List (Nat×Obj)}{A F:Fr}{O:List Ow}{ty:TypeId}{pos:String}{af:Array Edge}{gd:Option (Nat×Bool)}{X:Type}{V:X->Value}
theorem cMf{φ:X->Prop}{hs H':List (Nat×Obj)}{os O':List Ow}{hs' H1:X->List (Nat×Obj)}{os' O1:X->List Ow}{Fc F1:X->Fr}{A0:Fr}{is js:List Nat}{f:FuncId}{cap:List Value}{xs:List Operand}{at_:Array TypeId}{vs:List Value}{dst:Option Nat}{x:Operand}
  (hx:ev S x=.func (.func f) #[] ⟨cap⟩:=by exact rfl) (ha:qV S xs=vs:=by(repeat (first|exact cP _|(apply cC;focus ((conv=>{lhs;whnf});try exact rfl))));first|done|fail) (hp:plain Tryz.prog f=true)
  (hc:∀w,SF w (Ks hs os) hs A0 [] os w->Calls Tryz.prog f ⟨vs++cap⟩ w λ e w'=>∃x,e=.returned (V x)/\φ x/\SF w (Ks hs os) (hs' x) [] (Fc x) (os' x) w')
  (hH:lX H is hs H':=by(repeat (first|exact lX.nil|(apply lX.cons;(focus ((repeat (first|exact yL.head|apply yL.tail));done));simp only[qE])));first|done|fail)
  (hO:lX O js os O':=by(repeat (first|exact lX.nil|(apply lX.cons;(focus ((repeat (first|exact yL.head|apply yL.tail));done));simp only[qE])));first|done|fail)
  (hA:bB A F O' A0:=by exact bB.of (λ _ h=>Or.inr (Or.inl h)))
  (hl1:∀x,is.length=(hs' x).length:=by intro x;exact rfl) (hl2:∀x,js.length=(os' x).length:=by intro x;exact rfl)
  (hH1:∀x,jA is (hs' x) H'=H1 x:=by intro x;first|(simp only[jA,qX];exact rfl)|exact rfl) (hF1:∀x,Fc x++F=F1 x:=by intro x;first|(simp only[List.nil_append,List.cons_append];exact rfl)|exact rfl) (hO1:∀x,jA js (os' x) O'=O1 x:=by intro x;simp only[jA,qX,mW];exact rfl) :
  aM Tryz.prog S (SF w0 M H A F O) ⟨dst,.call {callee:=.value x,args:=⟨xs⟩,argTypes:=at_},ty,pos,af,gd⟩ X V (λ x w=>φ x/\SF w0 M (H1 x) A (F1 x) (O1 x) w) :=
 hJ (j3 hx hp ha) λ w hw=>(hc w (hw.pE hH hO hA)).mono λ _ _ ⟨x,he,hx,hs⟩=>⟨x,he,hx,by
  have:=hw.xG (hs':=hs' x) (Hc:=[]) (os':=os' x) (Oc:=[]) hH hO (by simpa using hs) (hl1 x) (hl2 x)
  rw[<- hH1 x,<- hF1 x,<- hO1 x]
  simpa using this⟩
end
end

/- Tasks: Done, Next, Result, Steps. -/
end Go.Proofs.YtbajmaoegmbfgaaGreat
namespace Go.Ct
section
open Go Go.RowKit
theorem SF.same{w w':World}{b:Nat}{o:Obj}(h:SF w [b] [(b,o)] [] [] [] w')(hb:w.heap[b]?=some o):St w [] [] w' :=
 ⟨h.st.os,h.st.tape,h.st.output,h.st.size,λ k hk _=>by
  by_cases e:k=b
  ·subst e;rw[h.st.has (k,o) (List.mem_singleton.2 rfl),hb]
  ·exact h.st.kP k hk (by simpa using e),λ _ h=>(List.not_mem_nil h).elim,λ _ h=>(List.not_mem_nil h).elim,List.nodup_nil⟩
theorem SF.To{w:World}{b:Nat}{o:Obj}(hb:w.heap[b]?=some o):SF w [b] [(b,o)] [] [] [] w :=
 ⟨⟨rfl,rfl,rfl,Nat.le_refl _,λ _ _ _=>rfl,λ p hp=>by rw[List.mem_singleton.1 hp];exact hb,λ p hp=>by rw[List.mem_singleton.1 hp];exact .inl (List.mem_singleton.2 rfl),by simp⟩,λ _ h=>(List.not_mem_nil h).elim,λ _ h=>(List.not_mem_nil h).elim,λ _ h=>(List.not_mem_nil h).elim,by simp[Ks]⟩
end
end Go.Ct
namespace Go.Proofs.YtbajmaoegmbfgaaGreat
section
open Go Go.RowKit Go.Ct
abbrev tkC(b:Nat)(c:Cd)(n:Nat)(z:Bool):List Value:=[.iface 42 (.pointer (some ⟨b,0,none⟩)),.int .i64 c.a.k,.int .i64 c.a.c,.int .i64 c.a.o,.int .i64 c.a.n,fnV c.f,fnV c.g,.int .i64 c.r.err,.bool c.r.found,.int .u64 c.r.val,.string c.r.key,.int .i64 c.r.gW,.int .i64 c.r.ref,.int .i64 c.r.root,.bool c.r.ro,.int .i64 ((n:Nat):Int),.bool z]
abbrev tO(b:Nat)(c:Cd)(n:Nat):Obj:=.cells ⟨tkC b c n false⟩ 141 (0,0)
section
variable{D:List Nat}{A B:Fr}{L:List aX}{cs:List Int}{gen acc:Int}{pn pc:Option Addr}{cn cc b bt n:Nat}{w:World}{c:Cd}
theorem uT(h:w.heap[bt]?=some (tO b c n)):Calls Tryz.prog 33 #[.pointer (some ⟨bt,0,none⟩)] w λ e w'=>e=.returned (.bool (c.a.k==0))/\St w [] [] w':=by
 refine enter Tryz.func33 Tryz.ntmps33 rfl rfl (SF.To h) ?_
 simp only[cN]
 all_goals (refine dC ?_;refine Bt ?_;refine aE ?_;refine J3 ?_;refine S2 ?_)
 all_goals
 refine aU Tryz.results33 (λ w hw=>?_)
 exact⟨rfl,hw.aS.same h⟩
theorem Jg(h:w.heap[bt]?=some (tO b c n)):Calls Tryz.prog 63 #[.pointer (some ⟨bt,0,none⟩)] w λ e w'=>e=.returned (.int .i64 ((n:Nat):Int))/\St w [] [] w':=by
 refine enter Tryz.func63 Tryz.ntmps63 rfl rfl (SF.To h) ?_
 simp only[cN]
 all_goals (refine dC ?_;refine kY ?_;refine J1 ?_)
 all_goals
 refine aU Tryz.results63 (λ w hw=>?_)
 exact⟨rfl,hw.aS.same h⟩
theorem cy (h:w.heap[bt]?=some (tO b c n)):Calls Tryz.prog 133 #[.pointer (some ⟨bt,0,none⟩)] w fun e w'=>e=.returned (.tuple #[.agg ⟨(if c.a.k=0 then Ac.zero else c.a).cells⟩,.bool (c.a.k != 0)])∧St w [] [] w':=by
 refine enter Tryz.func133 Tryz.ntmps133 rfl rfl (SF.To h) ?_
 simp only [cN]
 all_goals (refine J0 ?_;refine aJ (fun x2=>?_);refine jM ?_;refine J2 ?_;refine aY (cV (hc:=fun w1 hw=>uT (hw.st.at bQ))) (fun x5=>?_);refine aH ?_)
 all_goals
 refine bG (fun c5=>?_) (fun c5=>?_)
 ·all_goals (refine J0 ?_;refine bO ?_;refine yN ?_)
  all_goals
   refine bE Tryz.results133 (fun w hw=>?_)
   refine⟨?_,hw.aS.same h⟩
   rw [if_pos (by simpa using c5),show (c.a.k != 0)=false by simpa using c5]
   rfl
 ·all_goals (refine bD ?_;refine Bt ?_;refine aE ?_;refine aB (aL (k:=4) (vs:=c.a.cells) rf bQ cD rfl rfl) rfl ?_;refine yN ?_)
  all_goals
   refine bE Tryz.results133 (fun w hw=>?_)
   refine⟨?_,hw.aS.same h⟩
   rw [if_neg (by simpa using c5),show (c.a.k != 0)=true by simpa using c5]
   rfl
theorem P4(h:w.heap[bt]?=some (tO b c n)):Calls Tryz.prog 34 #[.pointer (some ⟨bt,0,none⟩)] w λ e w'=>e=.returned (.agg ⟨(if c.a.k=0 then c.r else Rs.zero).cells⟩)/\St w [] [] w':=by
 refine enter Tryz.func34 Tryz.ntmps34 rfl rfl (SF.To h) ?_
 simp only[cN]
 all_goals (refine J0 ?_;refine aJ (λ x2=>?_);refine aH ?_;refine lW ?_;refine aY (cV (hc:=λ w1 hw=>uT (hw.st.at bQ))) (λ x4=>?_);refine qT ?_)
 all_goals
 refine bG (λ c5=>?_) (λ c5=>?_)
 ·all_goals (refine J0 ?_;refine wJ ?_)
  all_goals
   refine bE Tryz.results34 (λ w hw=>?_)
   refine⟨?_,hw.aS.same h⟩
   rw[if_neg (by simpa using c5)]
   rfl
 ·all_goals (refine bD ?_;refine Bt ?_;refine aE ?_;refine aB (aL (k:=8) (vs:=c.r.cells) rf bQ cD rfl rfl) rfl ?_;refine J5 ?_)
  all_goals
   refine bE Tryz.results34 (λ w hw=>?_)
   refine⟨?_,hw.aS.same h⟩
   rw[if_pos (by simpa using c5)]
   rfl
end
end

end Go.Proofs.YtbajmaoegmbfgaaGreat
