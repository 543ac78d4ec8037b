/- The procedures with shared cells, as trees. -/
import Derived.Test.YtbajmaoegmbfgaaGreatGVw1
import Derived.Test.YtbajmaoegmbfgaaGreatGTr3
import Derived.Test.YtbajmaoegmbfgaaGreatGDfr
import Derived.Test.YtbajmaoegmbfgaaGreatGAr5

set_option linter.unusedSimpArgs false
set_option linter.unusedVariables false
namespace Go.Ct
section
def NI.c0(a:NI):Nv:=a.n.c a.xs a.ys
end
end Go.Ct
namespace Go.Proofs.YtbajmaoegmbfgaaGreat
section
open Go.RowKit Go.Ct
structure gO where
 root:Int
 ro:Bool
structure Cl where
 kind:Int
 t:gO
 a:Int
 b:Int
 n:Int
 index:Int
 hash:Int
 mask:Int
 key:ByteArray
 val:Int
 exp:Int
 Il:Int
 only:Bool
def gZ(h:Nat)(level:Int):Int:=if level<0∨10<level then 0 else(sl h level.toNat:Int)
def yM(p:Int):Nv:=({Nd.zero with kind:=7,bK:=p}:Nd).c [] []
def sU(g:Int):Nv:=({Nd.zero with kind:=2,gen:=g}:Nd).c [] []
def Da(a b c:Int):Nv:=({Nd.zero with kind:=8,bK:=a,exp:=b,new:=c}:Nd).c [] []
def Fq(h:Int)(k:ByteArray)(u:Int):Nv:=({Nd.zero with kind:=4,hash:=h,key:=k,val:=u}:Nd).c [] []
def K8:Nv:=({Nd.zero with kind:=3}:Nd).c [] []
def xl(v s:Int)(K:Int->Tr):Tr:=.node v λ n=>K (if s=1 then n.new else n.bK)
def wB(t:gO)(v s:Int)(K:Int->Tr):Tr:=xl v s λ w=>.kO t.root v w λ _=>K w
def Kc(t:gO)(K:Int->Tr):Tr:=.load t.root λ v=>.node v λ n=>if n.kind=2 then K v else .node v λ n=>.load n.status λ s =>
 if s=0 then .node v λ n=>.kO n.status 0 2 λ _=>.node v λ n=>.load n.status λ s=>wB t v s K else wB t v s K
def P6(i m p:Int)(K:Int->Tr):Tr:=.node i λ ni=>.node p λ np=>.kO ni.main m np.bK λ _=>.node p λ np=>K np.bK
def jK(i m:Int)(K:Int->Tr):Tr:=.node m λ nm=>.load nm.prev λ p=>if p=0 then K m else P6 i m p K
def qF(i m p:Int)(c:Bool)(K:Int->Tr):Tr :=
 if c=true then .node m λ nm=>.kO nm.prev p 0 λ _=>jK i m K
 else .node m λ nm=>.alloc (yM p) 0 λ f=>.kO nm.prev p f λ _=>jK i m K
def qL(t:gO)(i m:Int)(K:Int->Tr):Tr:=.node m λ nm=>.load nm.prev λ p=>if p=0 then K m else .node p λ np =>
 if cB np then(if t.ro=true then qF i m p false K else Kc t λ r=>.node r λ nr=>.node i λ ni=>qF i m p (nr.gen==ni.gen) K)
 else P6 i m p K
def kL(t:gO)(i:Int)(K:Int->Tr):Tr:=.node i λ ni=>.load ni.main λ m=>qL t i m K
def Bb(t:gO)(v:Int)(K:Tr):Tr:=.node v λ n=>kL t n.bK λ r=>.node v λ n2=>.node v λ n3=>.kO n3.status 0 (if r=n2.exp then 1 else 2) λ _=>K
def yE(t:gO)(K:Int->Tr):Tr:=.load t.root λ v=>.node v λ n=>if n.kind=2 then K v else .node v λ n=>.load n.status λ s =>
 if s=0 then Bb t v (.node v λ n=>.load n.status λ s=>wB t v s K) else wB t v s K
def jO(t:gO)(i bK n:Int)(K:Bool->Tr):Tr:=.node i λ ni=>.kO ni.main bK n λ b=>if b=true then qL t i n λ m=>K (m==n) else K false
def Cg(t:gO)(bK exp new:Int)(K:Bool->Tr):Tr:=.alloc (Da bK exp new) 0 λ d=>.kO t.root bK d λ b =>
 if b=true then Bb t d (.node d λ nd=>.load nd.status λ s=>wB t d s λ _=>K (s==1)) else K false
noncomputable def Hu (c index r:Int) (K:Int->Tr):Tr:=.node c λ nc=>.alloc (Zl nc index r) c K
noncomputable def M1 (t:gO) (i c index:Int) (K:Int->Tr):Tr:=.node c λ nc=>kL t ((lV nc index).getD 0) λ m=>.node i λ ni=>.alloc (sU ni.gen) m λ j =>
 Hu c index j λ r=>jO t i c r λ ok=>K (if ok=true then j else 0)
noncomputable def yY (t:gO) (parent child:Int) (h:Nat) (level:Int) (K:Bool->Tr):Tr:=kL t parent λ m=>.node m λ nm =>
 if lV nm (gZ h level)=some child then kL t child λ mc=>.node mc λ nmc =>
  if nmc.kind=5 then .alloc (unV nmc) 0 λ s=>.node m λ nm2=>.alloc (xi (Zl nm2 (gZ h level) s) level (unV nmc)) m λ r=>jO t parent m r K
  else K false
 else K false
def jI(f:Bool)(v:Int):Rs:=⟨0,f,v,⟨#[]⟩,0,0,0,false⟩
def rW(f:Bool)(v:Int):Rs:=⟨0,f,v,⟨#[]⟩,1,0,0,false⟩
noncomputable def Dm (t:gO) (h:Nat) (key:ByteArray) (K:Rs->Tr):Nat->Int->Int->Tr
 | 0,_,_=>.stuck
 | n+1,i,level=>kL t i λ mr=>.node mr λ m =>
  if m.kind=5 then(if m.key=key then K (jI true m.val) else K (jI false 0))
  else if m.kind=6 then K (jI (dU m.ys key).isSome ((dU m.ys key).getD 0))
  else match lV m (gZ h level) with
   | none=>K (jI false 0)
   | some b=>.node b λ s=>if s.kind=4 then(if s.key=key then K (jI true s.val) else K (jI false 0)) else Dm t h key K n b (level+1)
def nT(c:Cl)(found:Bool)(v:Int):Bool:=if c.Il=1 then !found else if c.Il=2 then found else if c.Il=3 then found&&v==c.exp else true
def Av:List NI->Int->(Int->Tr)->Tr
 | [],r,K=>K r
 | a::l,_,K=>.alloc a.c0 a.init λ r=>Av l r K
def dP(at_:Int)(h0 h:Nat)(p:Pr)(k:ByteArray)(u gen:Int)(fi lvl:Nat):List NI:=dN at_ h0 h p k u gen fi (kQ h0 h-lvl) (kQ h0 h-(kQ h0 h-lvl))
def Ua(c:Cl)(b:Int)(h:Nat)(level:Nat)(gen:Int)(K:Int->Tr):Tr:=.node b λ nb =>
 .alloc ((dP b nb.hash.toNat h (nb.key,nb.val) c.key c.val gen 0 level).headD NI.no).c0 ((dP b nb.hash.toNat h (nb.key,nb.val) c.key c.val gen 0 level).headD NI.no).init λ f =>
 Av (dP b nb.hash.toNat h (nb.key,nb.val) c.key c.val gen f.toNat level).tail f K
noncomputable def mH (c:Cl) (i m:Int) (h:Nat) (level:Nat) (gen:Int) (K:Rs->Int->Tr):Tr:=.node m λ n =>
 if n.kind=6 then
  (if nT c (dU n.ys c.key).isSome ((dU n.ys c.key).getD 0)=true then
   .alloc (wj n c.key c.val) m λ r=>jO c.t i m r λ ok=>K (rW (dU n.ys c.key).isSome ((dU n.ys c.key).getD 0)) (if ok=true then 1 else 0)
  else K (jI (dU n.ys c.key).isSome ((dU n.ys c.key).getD 0)) 1)
 else match lV n (gZ h level) with
  | none=>if nT c false 0=true then .alloc (Fq h c.key c.val) 0 λ s=>.alloc (vo n (gZ h level) s) m λ r=>jO c.t i m r λ ok=>K (rW false 0) (if ok=true then 1 else 0) else K (jI false 0) 1
  | some b=>.node b λ nb=>if nb.kind=2 then K Rs.zero 2 else
   if nb.key=c.key then
    (if nT c true nb.val=true then .alloc (Fq h c.key c.val) 0 λ s=>Hu m (gZ h level) s λ r=>jO c.t i m r λ ok=>K (rW true nb.val) (if ok=true then 1 else 0)
    else K (jI true nb.val) 1)
   else
    (if nT c false 0=true then Ua c b h (level+1) gen λ d=>.alloc (sU gen) d λ j=>Hu m (gZ h level) j λ r=>jO c.t i m r λ ok=>K (rW false 0) (if ok=true then 1 else 0)
    else K (jI false 0) 1)
noncomputable def Hy (c:Cl) (i m index gen:Int) (K:Int->Tr):Tr:=.node m λ nm=>.node ((lV nm index).getD 0) λ nb=>if nb.gen=gen then K ((lV nm index).getD 0) else M1 c.t i m index K
noncomputable def C1 (c:Cl) (h:Nat) (K:Rs->Tr) (again:Tr) (gen:Int):Nat->Int->Int->Nat->Tr
 | 0,_,_,_=>.stuck
 | n+1,i,parent,level=>kL c.t i λ m=>.node m λ nm =>
  if nm.kind=5 then yY c.t parent i h ((level:Int)-1) λ _=>again
  else mH c i m h level gen λ r what=>if what=1 then K r else if what=0 then again else
   Hy c i m (gZ h level) gen λ b=>if b=0 then again else C1 c h K again gen n b i (level+1)
noncomputable def Ge (c:Cl) (h:Nat) (K:Rs->Tr):Nat->Tr
 | 0=>.stuck
 | n+1=>yE c.t λ i=>.node i λ ni=>C1 c h K (Ge c h K n) ni.gen n i 0 0
noncomputable def jW (c:Cl) (i m:Int) (h:Nat) (level:Nat) (K:Rs->Int->Tr):Tr:=.node m λ n =>
 if n.kind=6 then
  (if(dU n.ys c.key).isSome=false∨(c.only=true/\(dU n.ys c.key).getD 0≠c.exp) then K (jI (dU n.ys c.key).isSome ((dU n.ys c.key).getD 0)) 1
  else .alloc (qu n c.key) m λ r=>jO c.t i m r λ ok=>K (rW true ((dU n.ys c.key).getD 0)) (if ok=true then 1 else 0))
 else match lV n (gZ h level) with
  | none=>K (jI false 0) 1
  | some b=>.node b λ s=>if s.kind=2 then K Rs.zero 2 else if s.key≠c.key then K (jI false 0) 1 else if c.only=true/\s.val≠c.exp then K (jI true s.val) 1
   else .node ((M0 (M7 n (gZ h level))).getD 0) λ so=>.alloc (xi (M7 n (gZ h level)) level so) m λ r=>jO c.t i m r λ ok=>K (rW true s.val) (if ok=true then 1 else 0)
noncomputable def td (t:gO) (path:List Int) (h:Nat) (K:Tr):Nat->Tr
 | 0=>K
 | l+1=>kL t (path.getD (l+1) 0) λ m=>.node m λ nm=>if nm.kind=5 then yY t (path.getD l 0) (path.getD (l+1) 0) h (l:Int) λ _=>td t path h K l else K
noncomputable def wG (c:Cl) (h:Nat) (K:Rs->Tr) (again:Tr) (gen:Int):Nat->Int->List Int->Nat->Tr
 | 0,_,_,_=>.stuck
 | n+1,i,path,level=>kL c.t i λ m=>.node m λ nm =>
  if nm.kind=5 then yY c.t (path.getD (level-1) 0) i h ((level:Int)-1) λ _=>again
  else jW c i m h level λ r what=>if what=1 then(if r.gC=1 then td c.t path h (K r) (path.length-1) else K r) else if what=0 then again else
   Hy c i m (gZ h level) gen λ b=>if b=0 then again else wG c h K again gen n b (path++[b]) (level+1)
noncomputable def wF (c:Cl) (h:Nat) (K:Rs->Tr):Nat->Tr
 | 0=>.stuck
 | n+1=>yE c.t λ i=>.node i λ ni=>wG c h K (wF c h K n) ni.gen n i [i] 0
def O7(root:Int)(ro:Bool):Rs:=⟨0,true,0,⟨#[]⟩,0,0,root,ro⟩
def Oi(m:Int)(K:Rs->Tr):Tr:=.gen λ g=>.alloc (sU g) m λ r=>.cell r λ c=>K (O7 c false)
def Kb(t:gO)(fz:Bool)(K:Rs->Tr):Nat->Tr
 | 0=>.stuck
 | n+1=>yE t λ r=>kL t r λ m=>.gen λ g=>.alloc (sU g) m λ j=>Cg t r m j λ ok =>
  if ok=true then(if fz=true then .cell r λ c=>K (O7 c true) else Oi m K) else Kb t fz K n
def tN(t:gO)(fz:Bool)(K:Rs->Tr)(n:Nat):Tr :=
 if t.ro=true then .load t.root λ r=>if fz=true then .cell r λ c=>K (O7 c true) else kL t r λ m=>Oi m K
 else Kb t fz K n
def zJ(t:gO)(K:Rs->Tr):Nat->Tr
 | 0=>.stuck
 | n+1=>yE t λ r=>kL t r λ m=>.alloc K8 0 λ c=>.gen λ g=>.alloc (sU g) c λ j=>Cg t r m j λ ok =>
  if ok=true then K (jI true 0) else zJ t K n
def lO(r:Int)(f:Bool):Rs:=⟨0,f,0,⟨#[]⟩,0,r,0,false⟩
def refuse(c:Cl):Int:=if c.kind=7∨c.kind=9 then(if c.key.size<=64 then 0 else 1) else if c.kind=8 then(if c.key.size<=64/\0<=c.Il/\c.Il<=3 then 0 else 1) else 0
noncomputable def kN (c:Cl) (h:Nat) (n:Nat):Tr :=
 if refuse c≠0 then .done {Rs.zero with err:=refuse c}
 else if c.kind=1 then kL c.t c.a λ r=>.done (lO r false)
 else if c.kind=2 then jO c.t c.a c.b c.n λ ok=>.done (lO 0 ok)
 else if c.kind=3 then yE c.t λ r=>.done (lO r false)
 else if c.kind=4 then Cg c.t c.a c.b c.n λ ok=>.done (lO 0 ok)
 else if c.kind=7 then yE c.t λ i=>Dm c.t h c.key .done n i 0
 else if c.kind=8 then Ge c h .done n
 else if c.kind=9 then wF c h .done n
 else if c.kind=10 then tN c.t false .done n
 else if c.kind=11 then tN c.t true .done n
 else zJ c.t .done n
end

/- Codes with a store: what they mean as trees. -/
end Go.Proofs.YtbajmaoegmbfgaaGreat
namespace Go.Ct
section
open Go Go.RowKit
structure AS where
 L:List aP
 cs:List Int
 gen:Int
 acc:Int
 pn:Option Addr
 cn:Nat
 pc:Option Addr
 cc:Nat
def AS.mm(a:AS):Mm:=⟨(cY a.L).map aP.c,a.cs,a.gen⟩
structure Zg(s:Mm):Prop where
 nd:∀v∈s.nodes,mP s.nodes.length s.cs.length v
 cs:∀v∈s.cs,v<=s.nodes.length
 two:2<=s.nodes.length
structure AS.Ok(a:AS):Prop where
 fit:Fits a.L
 mo:Zg a.mm
structure Mm.Le(s s1:Mm):Prop where
 nodes:∃N,s1.nodes=s.nodes++N
 cl:s.cs.length<=s1.cs.length
def Mm.Small(s:Mm):Prop:=s.nodes.length<=137438953472/\s.cs.length<=137438953472
structure AS.jM(a a':AS)(F:Fr):Prop where
 le:a.mm.Le a'.mm
 fam:∀f∈aM a'.L,f.2=[]∨f∈aM a.L∨f∈F
theorem Mm.Le.refl(s:Mm):s.Le s:=⟨⟨[],by simp⟩,Nat.le_refl _⟩
theorem Mm.Le.trans{s t u:Mm}(h:s.Le t)(h2:t.Le u):s.Le u:=by
 obtain⟨⟨N,e⟩,c⟩:=h
 obtain⟨⟨M,e2⟩,c2⟩:=h2
 exact⟨⟨N++M,by rw[e2,e,List.append_assoc]⟩,Nat.le_trans c c2⟩
theorem Mm.Le.len{s t:Mm}(h:s.Le t):s.nodes.length<=t.nodes.length:=by obtain⟨N,e⟩:=h.nodes;rw[e,List.length_append];omega
theorem Mm.Le.nd{s t:Mm}(h:s.Le t){r:Int}(hr:r<=s.nodes.length):cG t.nodes r=cG s.nodes r:=by obtain⟨N,e⟩:=h.nodes;rw[e];exact Fb hr
theorem AS.jM.refl(a:AS):a.jM a []:=⟨Mm.Le.refl _,λ f hf=>.inr (.inl hf)⟩
theorem AS.jM.more{a a':AS}{F F':Fr}(h:a.jM a' F)(hs:∀f∈F,f∈F'):a.jM a' F':=⟨h.le,λ f hf=>(h.fam f hf).imp_right λ h=>h.imp_right λ h=>hs f h⟩
theorem AS.jM.trans{a b c:AS}{F G:Fr}(h:a.jM b F)(h2:b.jM c G):a.jM c (G++F):=⟨h.le.trans h2.le,λ f hf=>by
 rcases h2.fam f hf with h1|h1|h1
 ·exact .inl h1
 ·rcases h.fam f h1 with h1|h1|h1
  ·exact .inl h1
  ·exact .inr (.inl h1)
  ·exact .inr (.inr (List.mem_append_right _ h1))
 ·exact .inr (.inr (List.mem_append_left _ h1))⟩
theorem Zg.at{s:Mm}(h:Zg s)(r:Int):mP s.nodes.length s.cs.length (cG s.nodes r):=by
 unfold cG
 split
 ·refine h.nd _ ?_
  rw[jH,List.getElem?_eq_getElem (by omega)]
  exact List.getElem_mem _
 ·exact Oj _ _
theorem Zg.cell{s:Mm}(h:Zg s)(c:Int):bU s.cs c<=s.nodes.length:=by
 unfold bU
 split
 ·exact lR h.cs _
 ·exact bH _
theorem Zg.kO{s:Mm}(h:Zg s){c o n:Int}(hn:n<=s.nodes.length):Zg ⟨s.nodes,eT s.cs c o n,s.gen⟩:=by
 refine⟨λ v hv=>by simp only[iC];exact h.nd v hv,λ v hv=>?_,h.two⟩
 simp only[eT] at hv
 split at hv
 ·rcases List.mem_or_eq_of_mem_set hv with hv|rfl
  ·exact h.cs v hv
  ·exact hn
 ·exact h.cs v hv
def iR:Tr->Mm->Tr×Mm
 | .alloc n i k,s=>iR (k ((s.nodes.length+1:Nat):Int)) (s.push n i)
 | .cell i k,s=>iR (k ((s.cs.length+1:Nat):Int)) ⟨s.nodes,s.cs++[i],s.gen⟩
 | .gen k,s=>iR (k (s.gen+1)) ⟨s.nodes,s.cs,s.gen+1⟩
 | .node r k,s=>iR (k (cG s.nodes r)) s
 | t,s=>(t,s)
def nxT:Tr->Mm->Tr×Mm
 | .load c k,s=>(k (bU s.cs c),s)
 | .kO c o n k,s=>(k (Z7 s.cs c o),⟨s.nodes,eT s.cs c o n,s.gen⟩)
 | t,s=>(t,s)
def Bf(p:Tr×Mm):Tr×Mm:=iR (nxT p.1 p.2).1 (nxT p.1 p.2).2
def Tr.live:Tr->Bool
 | .done _=>false
 | _=>true
def uR(p:Tr×Mm):Nat->Tr×Mm
 | 0=>p
 | k+1=>Bf (uR p k)
theorem aA0{t t':Tr}{s s':Mm}(h:Lp t s t' s'):nxT t s=(t',s')/\∀u,iR t u=(t,u):=by
 cases h with
 | load c k s=>exact⟨rfl,λ _=>rfl⟩
 | kO c o n k s b hb=>rw[Um hb];exact⟨rfl,λ _=>rfl⟩
theorem Zx{t t':Tr}{s s':Mm}(h:Sp t s t' s'):iR t s=iR t' s':=by
 cases h<;>rfl
theorem kv{j:Nat}{t t':Tr}{s s':Mm}(h:Rc j t s t' s'):(j=0->iR t s=iR t' s')/\(j=1->Bf (iR t s)=iR t' s'):=by
 induction h with
 | refl t s=>exact⟨λ _=>rfl,λ h=>nomatch h⟩
 | iR _ hs ih=>exact⟨λ e=>(ih.1 e).trans (Zx hs),λ e=>(ih.2 e).trans (Zx hs)⟩
 | loud _ hs ih =>
  refine⟨(λ e=>nomatch e),λ e=>?_⟩
  obtain⟨h1,h2⟩:=aA0 hs
  rw[ih.1 (by omega),h2]
  unfold Bf
  rw[h1]
end
end Go.Ct
namespace Go.Proofs.YtbajmaoegmbfgaaGreat
section
open Go Go.RowKit Go.Ct
theorem Hn{t:Tr}(h:eF t=true)(s:Mm):iR t s=(t,s):=by
 cases t<;>first|rfl|cases h
theorem xe{t t':Tr}{s s':Mm}(h:Rc 0 t s t' s')(ha:eF t'=true):iR t s=(t',s'):=by rw[(kv h).1 rfl,Hn ha]
theorem xn{t t':Tr}{s s':Mm}(h:Rc 1 t s t' s')(h0:eF t=true)(ha:eF t'=true):Bf (t,s)=(t',s'):=by rw[<- Hn h0 s,(kv h).2 rfl,Hn ha]
abbrev fS(a:AS):Obj:=aO a.L a.cs a.gen a.acc a.pn a.cn a.pc a.cc
abbrev gI(a:AS):List Ow:=mW a.L a.cs a.pn a.cn a.pc a.cc
def Dx(b:Nat)(R:Cd->Mm->Fr->Prop)(a:AS)(B:Fr)(D:List Nat)(w:World):Ending->World->Prop:=λ e w'=>∃y:Cd×Fr×AS,e=.returned (.agg ⟨y.1.cells⟩)/\(R y.1 y.2.2.mm (y.2.1++B)/\y.2.2.Ok/\a.jM y.2.2 y.2.1)/\SF w D [(b,fS y.2.2)] [] y.2.1 (gI y.2.2) w'
def zG(b:Nat)(f:FuncId)(cap:List Value)(arg:List Value)(B:Fr)(s:Mm)(R:Cd->Mm->Fr->Prop):Prop :=
 ∀(a:AS) (D:List Nat) (A:Fr) (w:World),a.mm=s->a.Ok->s.Small->(∀f∈aM a.L,f∈A)->(∀f∈B,f∈A)->SF w D [(b,fS a)] A [] (gI a) w->Calls Tryz.prog f ⟨arg++cap⟩ w (Dx b R a B D w)
def kV(b:Nat):Tr->Mm->Cd->Mm->Fr->Prop
 | .done r,s,c,s2,_=>s2=s/\c=Cm r
 | .load x k,s,c,s2,B=>s2=s/\x<=9223372036854775807/\∃f cap,c=sQ x f cap/\plain Tryz.prog f=true/\∀(v:Int) (s1:Mm),s.Le s1->v<=s1.nodes.length->zG b f cap [.int .i64 v] B s1 λ c' s' B'=>kV b (k v) s1 c' s' B'
 | .kO x o n k,s,c,s2,B=>s2=s/\x<=9223372036854775807/\n<=s.nodes.length/\∃f cap,c=yD x o n f cap/\plain Tryz.prog f=true/\∀(v:Bool) (s1:Mm),s.Le s1->zG b f cap [.bool v] B s1 λ c' s' B'=>kV b (k v) s1 c' s' B'
 | .alloc n i k,s,c,s2,B=>kV b (k ((s.nodes.length+1:Nat):Int)) (s.push n i) c s2 B
 | .cell i k,s,c,s2,B=>kV b (k ((s.cs.length+1:Nat):Int)) ⟨s.nodes,s.cs++[i],s.gen⟩ c s2 B
 | .gen k,s,c,s2,B=>kV b (k (s.gen+1)) ⟨s.nodes,s.cs,s.gen+1⟩ c s2 B
 | .node r k,s,c,s2,B=>r<=s.nodes.length/\kV b (k (cG s.nodes r)) s c s2 B
 | .stuck,_,_,_,_=>True
def Es(b:Nat)(K:Int->Tr)(s:Mm)(f:FuncId)(cap:List Value)(B:Fr):Prop:=plain Tryz.prog f=true/\∀(v:Int) (s1:Mm),s.Le s1->v<=s1.nodes.length->zG b f cap [.int .i64 v] B s1 λ c' s' B'=>kV b (K v) s1 c' s' B'
def Xk(b:Nat)(K:Bool->Tr)(s:Mm)(f:FuncId)(cap:List Value)(B:Fr):Prop:=plain Tryz.prog f=true/\∀(v:Bool) (s1:Mm),s.Le s1->zG b f cap [.bool v] B s1 λ c' s' B'=>kV b (K v) s1 c' s' B'
def Th0(b:Nat)(t:Tr)(s:Mm)(f:FuncId)(cap:List Value)(B:Fr):Prop:=plain Tryz.prog f=true/\∀s1:Mm,s.Le s1->zG b f cap [] B s1 λ c' s' B'=>kV b t s1 c' s' B'
section
variable{b:Nat}{f:FuncId}{cap arg:List Value}{B B2:Fr}{s s1 s2:Mm}{t:Tr}{c:Cd}
theorem zG.more{R R2:Cd->Mm->Fr->Prop}(h:zG b f cap arg B s R)(hb:∀x∈B,x∈B2)(hR:∀c m C C2,(∀x∈C,x∈C2)->R c m C->R2 c m C2):zG b f cap arg B2 s R2:=λ a D A w e1 ok hs h1 h2 hw =>
 (h a D A w e1 ok hs h1 (λ x hx=>h2 x (hb x hx)) hw).mono λ e w' ⟨y,he,⟨hr,h3⟩,hs⟩=>⟨y,he,⟨hR _ _ _ _ (λ x hx=>by
  rcases List.mem_append.1 hx with h1|h1
  ·exact List.mem_append_left _ h1
  ·exact List.mem_append_right _ (hb x h1)) hr,h3⟩,hs⟩
theorem kV.more:∀{t:Tr} {s s2:Mm} {c:Cd} {B B2:Fr},kV b t s c s2 B->(∀x∈B,x∈B2)->kV b t s c s2 B2
 | .done _,_,_,_,_,_,h,_=>h
 | .load _ k,_,_,_,_,_,⟨h0,h1,f,cap,h2,h3,h4⟩,hb=>⟨h0,h1,f,cap,h2,h3,λ v s1 l hv=>(h4 v s1 l hv).more hb λ _ _ _ _ hC h=>kV.more (t:=k v) h hC⟩
 | .kO _ _ _ k,_,_,_,_,_,⟨h0,h1,hn,f,cap,h2,h3,h4⟩,hb=>⟨h0,h1,hn,f,cap,h2,h3,λ v s1 l=>(h4 v s1 l).more hb λ _ _ _ _ hC h=>kV.more (t:=k v) h hC⟩
 | .alloc n i k,s,_,_,_,_,h,hb=>kV.more (t:=k ((s.nodes.length+1:Nat):Int)) h hb
 | .cell i k,s,_,_,_,_,h,hb=>kV.more (t:=k ((s.cs.length+1:Nat):Int)) h hb
 | .gen k,s,_,_,_,_,h,hb=>kV.more (t:=k (s.gen+1)) h hb
 | .node r k,s,_,_,_,_,h,hb=>⟨h.1,kV.more (t:=k (cG s.nodes r)) h.2 hb⟩
 | .stuck,_,_,_,_,_,_,_=>trivial
theorem Es.more{K:Int->Tr}(h:Es b K s f cap B)(hb:∀x∈B,x∈B2):Es b K s f cap B2:=⟨h.1,λ v s1 l hv=>(h.2 v s1 l hv).more hb λ _ _ _ _ hC h=>kV.more h hC⟩
theorem Xk.more{K:Bool->Tr}(h:Xk b K s f cap B)(hb:∀x∈B,x∈B2):Xk b K s f cap B2:=⟨h.1,λ v s1 l=>(h.2 v s1 l).more hb λ _ _ _ _ hC h=>kV.more h hC⟩
theorem Es.le{K:Int->Tr}(h:Es b K s f cap B)(l:s.Le s1):Es b K s1 f cap B:=⟨h.1,λ v s2 l2 hv=>h.2 v s2 (l.trans l2) hv⟩
theorem Xk.le{K:Bool->Tr}(h:Xk b K s f cap B)(l:s.Le s1):Xk b K s1 f cap B:=⟨h.1,λ v s2 l2=>h.2 v s2 (l.trans l2)⟩
theorem kV.kind(h:kV b t s c s2 B)(ha:eF t=true):(c.a.k=0↔t.live=false)/\(∀r,t=.done r->c.r=r)/\(∀x,t.acc=some x->c.a=x):=by
 cases t with
 | done r=>rw[h.2];exact⟨⟨λ _=>rfl,λ _=>rfl⟩,(λ r e=>by cases e;rfl),(λ x e=>nomatch e)⟩
 | load x k =>
  obtain⟨_,_,f,cap,e,_⟩:=h
  rw[e]
  exact⟨⟨λ h=>absurd h (show(1:Int)≠0 by decide),(λ h=>nomatch h)⟩,(λ r e=>nomatch e),λ x e=>by cases e;rfl⟩
 | kO x o n k =>
  obtain⟨_,_,_,f,cap,e,_⟩:=h
  rw[e]
  exact⟨⟨λ h=>absurd h (show(2:Int)≠0 by decide),(λ h=>nomatch h)⟩,(λ r e=>nomatch e),λ x e=>by cases e;rfl⟩
 | alloc n i k=>cases ha
 | cell i k=>cases ha
 | gen k=>cases ha
 | node r k=>cases ha
 | stuck=>cases ha
theorem kV.le(h:kV b t s c s2 B)(ha:eF t=true)(l:s.Le s1):kV b t s1 c s1 B:=by
 cases t with
 | done r=>exact⟨rfl,h.2⟩
 | load x k =>
  obtain⟨_,h1,f,cap,e,hp,hk⟩:=h
  exact⟨rfl,h1,f,cap,e,hp,λ v s3 l3 hv=>hk v s3 (l.trans l3) hv⟩
 | kO x o n k =>
  obtain⟨_,h1,hn,f,cap,e,hp,hk⟩:=h
  exact⟨rfl,h1,by have:=l.len;omega,f,cap,e,hp,λ v s3 l3=>hk v s3 (l.trans l3)⟩
 | alloc n i k=>cases ha
 | cell i k=>cases ha
 | gen k=>cases ha
 | node r k=>cases ha
 | stuck=>cases ha
theorem kV.iR:∀{t:Tr} {s s2:Mm} {c:Cd} {n m:Nat},bR t n m->kV b t s c s2 B->(iR t s).2=s2/\eF (iR t s).1=true/\kV b (iR t s).1 s2 c s2 B
 | .done _,_,_,_,_,_,_,h=>by obtain⟨rfl,h2⟩:=h;exact⟨rfl,rfl,rfl,h2⟩
 | .load _ k,_,_,_,_,_,_,h=>by obtain⟨rfl,h2⟩:=h;exact⟨rfl,rfl,rfl,h2⟩
 | .kO _ _ _ k,_,_,_,_,_,_,h=>by obtain⟨rfl,h2⟩:=h;exact⟨rfl,rfl,rfl,h2⟩
 | .alloc n i k,s,_,_,_,0,ht,h=>ht.elim
 | .alloc n i k,s,_,_,_,_+1,ht,h=>kV.iR (t:=k ((s.nodes.length+1:Nat):Int)) (ht _) h
 | .cell i k,s,_,_,_,0,ht,h=>ht.elim
 | .cell i k,s,_,_,_,_+1,ht,h=>kV.iR (t:=k ((s.cs.length+1:Nat):Int)) (ht _) h
 | .gen k,s,_,_,_,0,ht,h=>ht.elim
 | .gen k,s,_,_,_,_+1,ht,h=>kV.iR (t:=k (s.gen+1)) (ht _) h
 | .node r k,s,_,_,_,_,ht,h=>kV.iR (t:=k (cG s.nodes r)) (ht _) h.2
 | .stuck,_,_,_,_,_,ht,_=>ht.elim
end
section
variable{S:List (Nat×Value)}{w0 w:World}{M:List Nat}{H:List (Nat×Obj)}{A F:Fr}{O:List Ow}{ty:TypeId}{pos:String}{af:Array Edge}{gd:Option (Nat×Bool)}{X:Type}{V:X->Value}
theorem cMf{φ:X->Prop}{hs H':List (Nat×Obj)}{os O':List Ow}{hs' H1:X->List (Nat×Obj)}{os' O1:X->List Ow}{Fc F1:X->Fr}{A0:Fr}{is js:List Nat}{f:FuncId}{cap:List Value}{xs:List Operand}{at_:Array TypeId}{vs:List Value}{dst:Option Nat}{x:Operand}
  (hx:ev S x=.func (.func f) #[] ⟨cap⟩:=by exact rfl) (ha:qJ S xs=vs:=by(repeat (first|exact dB _|(apply cI;focus ((conv=>{lhs;whnf});try exact rfl))));first|done|fail) (hp:plain Tryz.prog f=true)
  (hc:∀w,SF w (Ks hs os) hs A0 [] os w->Calls Tryz.prog f ⟨vs++cap⟩ w λ e w'=>∃x,e=.returned (V x)/\φ x/\SF w (Ks hs os) (hs' x) [] (Fc x) (os' x) w')
  (hH:lQ H is hs H':=by(repeat (first|exact lQ.nil|(apply lQ.cons;(focus ((repeat (first|exact yV.head|apply yV.tail));done));simp only[qE])));first|done|fail)
  (hO:lQ O js os O':=by(repeat (first|exact lQ.nil|(apply lQ.cons;(focus ((repeat (first|exact yV.head|apply yV.tail));done));simp only[qE])));first|done|fail)
  (hA:bA A F O' A0:=by exact bA.of (λ _ h=>Or.inr (Or.inl h)))
  (hl1:∀x,is.length=(hs' x).length:=by intro x;exact rfl) (hl2:∀x,js.length=(os' x).length:=by intro x;exact rfl)
  (hH1:∀x,iO is (hs' x) H'=H1 x:=by intro x;first|(simp only[iO,qV];exact rfl)|exact rfl) (hF1:∀x,Fc x++F=F1 x:=by intro x;first|(simp only[List.nil_append,List.cons_append];exact rfl)|exact rfl) (hO1:∀x,iO js (os' x) O'=O1 x:=by intro x;simp only[iO,qV,mW];exact rfl) :
  bE Tryz.prog S (SF w0 M H A F O) ⟨dst,.call {callee:=.value x,args:=⟨xs⟩,argTypes:=at_},ty,pos,af,gd⟩ X V (λ x w=>φ x/\SF w0 M (H1 x) A (F1 x) (O1 x) w) :=
 hY (r7 hx hp ha) λ w hw=>(hc w (hw.pG hH hO hA)).mono λ _ _ ⟨x,he,hx,hs⟩=>⟨x,he,hx,by
  have:=hw.xG (hs':=hs' x) (Hc:=[]) (os':=os' x) (Oc:=[]) hH hO (by simpa using hs) (hl1 x) (hl2 x)
  rw[<- hH1 x,<- hF1 x,<- hO1 x]
  simpa using this⟩
end
end

/- Tasks: Done, Next, Result, Steps. -/
end Go.Proofs.YtbajmaoegmbfgaaGreat
namespace Go.Ct
section
open Go Go.RowKit
theorem SF.same{w w':World}{b:Nat}{o:Obj}(h:SF w [b] [(b,o)] [] [] [] w')(hb:w.heap[b]?=some o):St w [] [] w' :=
 ⟨h.st.os,h.st.tape,h.st.output,h.st.size,λ k hk _=>by
  by_cases e:k=b
  ·subst e;rw[h.st.has (k,o) (List.mem_singleton.2 rfl),hb]
  ·exact h.st.jX k hk (by simpa using e),λ _ h=>(List.not_mem_nil h).elim,λ _ h=>(List.not_mem_nil h).elim,List.nodup_nil⟩
theorem SF.Un{w:World}{b:Nat}{o:Obj}(hb:w.heap[b]?=some o):SF w [b] [(b,o)] [] [] [] w :=
 ⟨⟨rfl,rfl,rfl,Nat.le_refl _,λ _ _ _=>rfl,λ p hp=>by rw[List.mem_singleton.1 hp];exact hb,λ p hp=>by rw[List.mem_singleton.1 hp];exact .inl (List.mem_singleton.2 rfl),by simp⟩,λ _ h=>(List.not_mem_nil h).elim,λ _ h=>(List.not_mem_nil h).elim,λ _ h=>(List.not_mem_nil h).elim,by simp[Ks]⟩
end
end Go.Ct
namespace Go.Proofs.YtbajmaoegmbfgaaGreat
section
open Go Go.RowKit Go.Ct
abbrev tkC(b:Nat)(c:Cd)(n:Nat)(z:Bool):List Value:=[.iface 42 (.pointer (some ⟨b,0,none⟩)),.int .i64 c.a.k,.int .i64 c.a.c,.int .i64 c.a.o,.int .i64 c.a.n,fnV c.f,fnV c.g,.int .i64 c.r.err,.bool c.r.found,.int .u64 c.r.val,.string c.r.key,.int .i64 c.r.gC,.int .i64 c.r.ref,.int .i64 c.r.root,.bool c.r.ro,.int .i64 ((n:Nat):Int),.bool z]
abbrev tO(b:Nat)(c:Cd)(n:Nat):Obj:=.cells ⟨tkC b c n false⟩ 141 (0,0)
section
variable{D:List Nat}{A B:Fr}{L:List aP}{cs:List Int}{gen acc:Int}{pn pc:Option Addr}{cn cc b bt n:Nat}{w:World}{c:Cd}
theorem wJ(h:w.heap[bt]?=some (tO b c n)):Calls Tryz.prog 33 #[.pointer (some ⟨bt,0,none⟩)] w λ e w'=>e=.returned (.bool (c.a.k==0))/\St w [] [] w':=by
 refine enter Tryz.func33 Tryz.ntmps33 rfl rfl (SF.Un h) ?_
 simp only[bX]
 refine cO ?_;refine Ho ?_;refine aE ?_;refine J3 ?_;refine Ra ?_
 refine aS Tryz.results33 (λ w hw=>?_)
 exact⟨rfl,hw.aU.same h⟩
theorem Kh(h:w.heap[bt]?=some (tO b c n)):Calls Tryz.prog 63 #[.pointer (some ⟨bt,0,none⟩)] w λ e w'=>e=.returned (.int .i64 ((n:Nat):Int))/\St w [] [] w':=by
 refine enter Tryz.func63 Tryz.ntmps63 rfl rfl (SF.Un h) ?_
 simp only[bX]
 refine cO ?_;refine lP ?_;refine J1 ?_
 refine aS Tryz.results63 (λ w hw=>?_)
 exact⟨rfl,hw.aU.same h⟩
theorem gh (h:w.heap[bt]?=some (tO b c n)):Calls Tryz.prog 133 #[.pointer (some ⟨bt,0,none⟩)] w fun e w'=>e=.returned (.tuple #[.agg ⟨(if c.a.k=0 then Ac.zero else c.a).cells⟩,.bool (c.a.k != 0)])∧St w [] [] w':=by
 refine enter Tryz.func133 Tryz.ntmps133 rfl rfl (SF.Un h) ?_
 simp only [bX]
 refine J0 ?_;refine aJ (fun x2=>?_);refine iE ?_;refine J2 ?_;refine aT (cV (hc:=fun w1 hw=>wJ (hw.st.at cQ))) (fun x5=>?_);refine aH ?_
 refine bB (fun c5=>?_) (fun c5=>?_)
 ·refine J0 ?_;refine bJ ?_;refine xX ?_
  refine bC Tryz.results133 (fun w hw=>?_)
  refine⟨?_,hw.aU.same h⟩
  rw [if_pos (by simpa using c5),show (c.a.k != 0)=false by simpa using c5]
  rfl
 ·refine aY ?_;refine Ho ?_;refine aE ?_;refine aC (aQ (k:=4) (vs:=c.a.cells) rf cQ eC rfl rfl) rfl ?_;refine xX ?_
  refine bC Tryz.results133 (fun w hw=>?_)
  refine⟨?_,hw.aU.same h⟩
  rw [if_neg (by simpa using c5),show (c.a.k != 0)=true by simpa using c5]
  rfl
theorem Sb(h:w.heap[bt]?=some (tO b c n)):Calls Tryz.prog 34 #[.pointer (some ⟨bt,0,none⟩)] w λ e w'=>e=.returned (.agg ⟨(if c.a.k=0 then c.r else Rs.zero).cells⟩)/\St w [] [] w':=by
 refine enter Tryz.func34 Tryz.ntmps34 rfl rfl (SF.Un h) ?_
 simp only[bX]
 refine J0 ?_;refine aJ (λ x2=>?_);refine aH ?_;refine kA ?_;refine aT (cV (hc:=λ w1 hw=>wJ (hw.st.at cQ))) (λ x4=>?_);refine nR ?_
 refine bB (λ c5=>?_) (λ c5=>?_)
 ·refine J0 ?_;refine vS ?_
  refine bC Tryz.results34 (λ w hw=>?_)
  refine⟨?_,hw.aU.same h⟩
  rw[if_neg (by simpa using c5)]
  rfl
 ·refine aY ?_;refine Ho ?_;refine aE ?_;refine aC (aQ (k:=8) (vs:=c.r.cells) rf cQ eC rfl rfl) rfl ?_;refine J5 ?_
  refine bC Tryz.results34 (λ w hw=>?_)
  refine⟨?_,hw.aU.same h⟩
  rw[if_pos (by simpa using c5)]
  rfl
end
end

/- Tasks on an arena: how they begin, how they go on. -/
end Go.Proofs.YtbajmaoegmbfgaaGreat
namespace Go.Ct
section
open Go Go.RowKit
abbrev AS.X5(a:AS)(cs:List Int):AS:={a with cs:=cs,acc:=up a.acc}
theorem AS.Ok.X5{a:AS}(ok:a.Ok){x o n:Int}(hn:n<=a.mm.nodes.length):(a.X5 (eT a.cs x o n)).Ok:=⟨ok.fit,ok.mo.kO hn⟩
end
end Go.Ct
namespace Go.Proofs.YtbajmaoegmbfgaaGreat
section
open Go Go.RowKit Go.Ct
section
variable{D:List Nat}{A B:Fr}{a:AS}{b bt n:Nat}{w:World}{c:Cd}{t:Tr}{f:FuncId}{cap:List Value}
theorem cm(h:Th0 b t a.mm f cap B)(ok:a.Ok)(hm:a.mm.Small)(hA:∀f∈aM a.L,f∈A)(hB:∀x∈B,x∈A)(hs:SF w D [(b,fS a)] A [] (gI a) w) :
  Calls Tryz.prog 118 #[.func (.func f) #[] ⟨cap⟩] w (Dx b (λ c' s' B'=>kV b t a.mm c' s' B') a B D w):=by
 obtain⟨hp,h⟩:=h
 refine Ru Tryz.func118 Tryz.ntmps118 rfl rfl hs ?_
 simp only[bX]
 refine fW ?_;refine dO ?_;refine vP (λ x2=>?_);refine iJ ?_;refine fW ?_;refine dO ?_;(refine gS (dC (by(repeat (first|exact dB _|(apply cI;focus ((conv=>{lhs;whnf});try exact rfl))));done)) rfl ?_);refine E5 rfl ?_;refine iJ ?_;refine fW ?_;refine fW ?_;refine dO ?_;refine oS ?_;refine gS (L7 rf rf (aBt _ _ _)) rfl ?_;refine iJ ?_
 refine Kp (λ c5=>?_) (λ c5=>?_)
 ·exact nv c5
 ·revert c5;(skip);intro c5
  refine En ?_;refine fW ?_;refine dO ?_;refine oS ?_;refine Al (cMf (V:=λ y:Cd×Fr×AS=>.agg ⟨y.1.cells⟩) (hs:=[(b,fS a)]) (os:=gI a) (hs':=λ y=>[(b,fS y.2.2)]) (os':=λ y=>gI y.2.2) (Fc:=λ y=>y.2.1) (A0:=A) (f:=f) (cap:=cap) (vs:=[]) (hp:=hp) (hc:=λ w1 hw=>h a.mm (Mm.Le.refl _) a _ A w1 rfl ok hm hA hB hw)) (λ x8 h8=>?_);refine Mi (iZ λ _=>bN rf cQ rf (dM _) eC rf kM) (λ _=>?_);refine iJ ?_
  refine G5 (Tv _) (by kernel_rfl) Tryz.results118 (.cell rf cQ eC .nil) (λ w hw=>?_)
  exact⟨x8,rfl,h8,hw.ret (by repeat (first|exact List.Sublist.refl _|apply List.Sublist.cons)) (aX.hJ λ f hf=>by simpa using hf) (List.Sublist.refl _)⟩
theorem Hf{x:Int}{k:Int->Tr}(hr:kV b (.load x k) a.mm c a.mm B)(ok:a.Ok)(hm:a.mm.Small)(hA:∀f∈aM a.L,f∈A)(hB:∀x∈B,x∈A)(hs:SF w D [(b,fS a)] A [] (gI a) w) :
  Calls Tryz.prog 86 #[.iface 42 (.pointer (some ⟨b,0,none⟩)),.agg ⟨c.cells⟩] w (Dx b (λ c' s' B'=>kV b (k (bU a.cs x)) a.mm c' s' B') a B D w):=by
 obtain⟨_,hx,f,cap,rfl,hp,hk⟩:=hr
 have hl:a.cs.length<=274877906944:=by have:=hm.2;show a.mm.cs.length<=_;omega
 have hv:bU a.cs x<=a.mm.nodes.length:=ok.mo.cell x
 refine Ru Tryz.func86 Tryz.ntmps86 rfl rfl hs ?_
 simp only[bX]
 refine fW ?_;refine dO ?_;refine fy (λ x3=>?_);refine vP (λ x4=>?_);refine iJ ?_;refine fW ?_;refine dO ?_;(refine gS (dC (by(repeat (first|exact dB _|(apply cI;focus ((conv=>{lhs;whnf});try exact rfl))));done)) rfl ?_);refine E5 rfl ?_;refine iJ ?_;refine fW ?_;refine dO ?_;refine eO ?_;refine gS (aQ (k:=4) (vs:=(sQ x f cap).a.cells) rf cQ eC rfl rfl) rfl ?_;refine vP (λ x5=>?_);refine O3 (λ _=>?_);refine iJ ?_;refine fW ?_;refine fW ?_;refine dO ?_;refine eO ?_;refine nL ?_;refine ia ?_;refine iJ ?_
 refine Kp (λ c13=>?_) (λ c13=>?_)
 ·revert c13;(refine cv1 ?_);intro c13
  refine fW ?_;refine dO ?_;refine zE (λ _=>?_);refine iJ ?_;refine fW ?_;refine fW ?_;refine dO ?_;refine oS ?_;refine gS (Vj rf rf (C9 _)) rfl ?_;refine iJ ?_
  refine Kp (λ c15=>?_) (λ c15=>?_)
  ·revert c15;(skip);intro c15
   refine dO ?_;refine oS ?_;refine eO ?_;refine nL ?_;refine Al (cMI (V:=λ _:Unit=>.int .i64 (bU a.cs x)) (os':=λ _=>gI (a.X5 a.cs)) (hs':=λ _=>[(b,fS (a.X5 a.cs))]) (Fc:=λ _=>[]) (A0:=A) (hm:=λ w=>Zu _ _ w) (hc:=λ w hw=>Vd hw x hx hl)) (λ x19 h19=>?_);refine zE (λ _=>?_);refine iJ ?_;refine fW ?_;refine fW ?_;refine dO ?_;refine eO ?_;refine nL ?_;refine gS (L7 rf rf (aAE _ _ _)) rfl ?_;refine iJ ?_
   refine Kp (λ c22=>?_) (λ c22=>?_)
   ·exact nv c22
   ·revert c22;(skip);intro c22
    refine En ?_;refine fW ?_;refine dO ?_;refine eO ?_;refine nL ?_;refine oS ?_;refine Al (cMf (V:=λ y:Cd×Fr×AS=>.agg ⟨y.1.cells⟩) (hs:=[(b,fS (a.X5 a.cs))]) (os:=gI (a.X5 a.cs)) (hs':=λ y=>[(b,fS y.2.2)]) (os':=λ y=>gI y.2.2) (Fc:=λ y=>y.2.1) (A0:=A) (f:=f) (cap:=cap) (vs:=[.int .i64 (bU a.cs x)]) (hp:=hp) (hc:=λ w1 hw=>hk (bU a.cs x) a.mm (Mm.Le.refl _) hv (a.X5 a.cs) _ A w1 rfl ⟨ok.fit,ok.mo⟩ hm hA hB hw)) (λ x27 h27=>?_);refine Mi (iZ λ _=>bN rf cQ rf (dM _) eC rf kM) (λ _=>?_);refine iJ ?_
    refine G5 (yU _) (by kernel_rfl) Tryz.results86 (.cell rf cQ eC .nil) (λ w hw=>?_)
    exact⟨x27,rfl,⟨h27.1,h27.2.1,⟨h27.2.2.le,h27.2.2.fam⟩⟩,hw.ret (by repeat (first|exact List.Sublist.refl _|apply List.Sublist.cons)) (aX.hJ λ f hf=>by simpa using hf) (List.Sublist.refl _)⟩
  ·exact nv c15
 ·revert c13;(refine cv2 ?_);intro c13
  exact(c13 rfl).elim
theorem Iq{x o n:Int}{k:Bool->Tr}(hr:kV b (.kO x o n k) a.mm c a.mm B)(ok:a.Ok)(hm:a.mm.Small)(hA:∀f∈aM a.L,f∈A)(hB:∀x∈B,x∈A)(hs:SF w D [(b,fS a)] A [] (gI a) w) :
  Calls Tryz.prog 86 #[.iface 42 (.pointer (some ⟨b,0,none⟩)),.agg ⟨c.cells⟩] w (Dx b (λ c' s' B'=>kV b (k (Z7 a.cs x o)) ⟨a.mm.nodes,eT a.cs x o n,a.gen⟩ c' s' B') a B D w):=by
 obtain⟨_,hx,hn,f,cap,rfl,hp,hk⟩:=hr
 have hl:a.cs.length<=274877906944:=by have:=hm.2;show a.mm.cs.length<=_;omega
 have hle:a.mm.Le ⟨a.mm.nodes,eT a.cs x o n,a.gen⟩:=⟨⟨[],by simp⟩,by show a.cs.length<=(eT a.cs x o n).length;rw[iC];exact Nat.le_refl _⟩
 have hm2:Mm.Small ⟨a.mm.nodes,eT a.cs x o n,a.gen⟩:=⟨hm.1,by show(eT a.cs x o n).length<=_;rw[iC];exact hm.2⟩
 refine Ru Tryz.func86 Tryz.ntmps86 rfl rfl hs ?_
 simp only[bX]
 refine fW ?_;refine dO ?_;refine fy (λ x3=>?_);refine vP (λ x4=>?_);refine iJ ?_;refine fW ?_;refine dO ?_;(refine gS (dC (by(repeat (first|exact dB _|(apply cI;focus ((conv=>{lhs;whnf});try exact rfl))));done)) rfl ?_);refine E5 rfl ?_;refine iJ ?_;refine fW ?_;refine dO ?_;refine eO ?_;refine gS (aQ (k:=4) (vs:=(yD x o n f cap).a.cells) rf cQ eC rfl rfl) rfl ?_;refine vP (λ x5=>?_);refine O3 (λ _=>?_);refine iJ ?_;refine fW ?_;refine fW ?_;refine dO ?_;refine eO ?_;refine nL ?_;refine ia ?_;refine iJ ?_
 refine Kp (λ c13=>?_) (λ c13=>?_)
 ·revert c13;(refine cv1 ?_);intro c13
  exact absurd (show(2:Int)=1 from c13) (by decide)
 ·revert c13;(refine cv2 ?_);intro c13
  refine En ?_;refine fW ?_;refine dO ?_;refine oS ?_;refine gS (Vj rf rf (C9 _)) rfl ?_;refine oS ?_
  (refine uY ?_;refine oS ?_)
  ((refine uY ?_;refine eO ?_));((refine uY ?_;refine nL ?_));((refine uY ?_;refine eO ?_));((refine uY ?_;refine nL ?_));((refine uY ?_;refine eO ?_));((refine uY ?_;refine nL ?_));((refine uY ?_;refine Al (cMI (V:=Value.bool) (os':=λ _=>gI (a.X5 (eT a.cs x o n))) (hs':=λ _=>[(b,fS (a.X5 (eT a.cs x o n)))]) (Fc:=λ _=>[]) (A0:=A) (hm:=λ w=>sr _ _ _ _ w) (hc:=λ w hw=>yc hw x o n hx hl)) (λ x38 h38=>?_)));refine nl ?_;refine zE (λ _=>?_);refine iJ ?_;refine fW ?_;refine fW ?_;refine dO ?_;refine eO ?_;refine nL ?_;refine gS (L7 rf rf (aBj _ _ _)) rfl ?_;refine iJ ?_
  refine Kp (λ c42=>?_) (λ c42=>?_)
  ·exact nv c42
  ·revert c42;(skip);intro c42
   refine En ?_;refine fW ?_;refine dO ?_;refine eO ?_;refine nL ?_;refine oS ?_;refine Al (cMf (V:=λ y:Cd×Fr×AS=>.agg ⟨y.1.cells⟩) (hs:=[(b,fS (a.X5 (eT a.cs x o n)))]) (os:=gI (a.X5 (eT a.cs x o n))) (hs':=λ y=>[(b,fS y.2.2)]) (os':=λ y=>gI y.2.2) (Fc:=λ y=>y.2.1) (A0:=A) (f:=f) (cap:=cap) (vs:=[.bool x38]) (hp:=hp) (hc:=λ w1 hw=>hk x38 _ hle (a.X5 (eT a.cs x o n)) _ A w1 rfl (ok.X5 hn) hm2 hA hB hw)) (λ x47 h47=>?_);refine Mi (iZ λ _=>bN rf cQ rf (dM _) eC rf kM) (λ _=>?_);refine iJ ?_
   refine G5 (yU _) (by kernel_rfl) Tryz.results86 (.cell rf cQ eC .nil) (λ w hw=>?_)
   exact⟨x47,rfl,⟨Um h38▸h47.1,h47.2.1,⟨hle.trans h47.2.2.le,h47.2.2.fam⟩⟩,hw.ret (by repeat (first|exact List.Sublist.refl _|apply List.Sublist.cons)) (aX.hJ λ f hf=>by simpa using hf) (List.Sublist.refl _)⟩
def oJ(b:Nat)(p:Tr×Mm)(a:AS)(B:Fr)(y:Cd×Fr×AS):Prop:=(kV b p.1 p.2 y.1 p.2 (y.2.1++B)/\y.2.2.mm=p.2)/\y.2.2.Ok/\a.jM y.2.2 y.2.1
theorem oJ.of{t0:Tr}{s0:Mm}{y:Cd×Fr×AS}{i m:Nat}(ht:bR t0 i m)(h:kV b t0 s0 y.1 y.2.2.mm (y.2.1++B)/\y.2.2.Ok/\a.jM y.2.2 y.2.1):oJ b (Ct.iR t0 s0) a B y/\eF (Ct.iR t0 s0).1=true:=by
 obtain⟨h1,h2,h3⟩:=kV.iR ht h.1
 exact⟨⟨⟨by rw[h1];exact h3,h1.symm⟩,h.2⟩,h2⟩
theorem Pv{i m:Nat}(ht:bR t (i+1) m)(ha:eF t=true)(hlv:t.live=true)(hr:kV b t a.mm c a.mm B)(ok:a.Ok)(hm:a.mm.Small)(hA:∀f∈aM a.L,f∈A)(hB:∀x∈B,x∈A)(hs:SF w D [(b,fS a)] A [] (gI a) w) :
  Calls Tryz.prog 86 #[.iface 42 (.pointer (some ⟨b,0,none⟩)),.agg ⟨c.cells⟩] w λ e w'=>∃y:Cd×Fr×AS,e=.returned (.agg ⟨y.1.cells⟩)/\(oJ b (Bf (t,a.mm)) a B y/\eF (Bf (t,a.mm)).1=true)/\SF w D [(b,fS y.2.2)] [] y.2.1 (gI y.2.2) w':=by
 cases t with
 | done r=>cases hlv
 | load x k=>exact(Hf hr ok hm hA hB hs).mono λ e w' ⟨y,he,h,hw⟩=>⟨y,he,oJ.of (ht _) h,hw⟩
 | kO x o n k=>exact(Iq hr ok hm hA hB hs).mono λ e w' ⟨y,he,h,hw⟩=>⟨y,he,oJ.of (ht _) h,hw⟩
 | alloc n i k=>cases ha
 | cell i k=>cases ha
 | gen k=>cases ha
 | node r k=>cases ha
 | stuck=>cases ha
theorem Km{i m:Nat}(ht:bR t (i+1) m)(ha:eF t=true)(hlv:t.live=true)(hr:kV b t a.mm c a.mm B)(ok:a.Ok)(hm:a.mm.Small)(hn:n<1000000000)(hA:∀f∈aM a.L,f∈A)(hB:∀x∈B,x∈A)(hs:SF w D [(bt,tO b c n),(b,fS a)] A [] (gI a) w) :
  Calls Tryz.prog 37 #[.pointer (some ⟨bt,0,none⟩)] w λ e w'=>∃y:Cd×Fr×AS,e=.returned (.tuple #[])/\(oJ b (Bf (t,a.mm)) a B y/\eF (Bf (t,a.mm)).1=true)/\SF w D [(bt,tO b y.1 (n+1)),(b,fS y.2.2)] [] y.2.1 (gI y.2.2) w':=by
 have hk:c.a.k≠0:=λ e=>by have:=(hr.kind ha).1.1 e;rw[hlv] at this;cases this
 refine enter Tryz.func37 Tryz.ntmps37 rfl rfl hs ?_
 simp only[bX]
 refine kA ?_;refine aT (cV (hc:=λ w1 hw=>wJ (hw.st.at cQ))) (λ x3=>?_);refine aA ?_
 (refine eD 4 (λ g4=>?_) (λ g4=>?_)<;>(try (exfalso;omega))<;>((refine aF ?_;refine aA ?_)))
 ((refine aF ?_;refine dD ?_));refine J6 ?_;refine cE ?_;refine aH ?_
 refine bB (λ c9=>?_) (λ c9=>?_)
 ·exact nv c9
 ·try (exfalso;omega)
  refine aY ?_;refine J13 ?_;refine uG ?_;refine lP ?_;refine Hr ?_;refine Od ?_;refine aV ?_;refine gL [0,1,2,3,4,5,6,7,8,9,10,11,12] ?_;refine X4 ?_;refine J9 ?_;refine bQ (i:=8) (hq:=(aQ (k:=14) (vs:=c.cells) rf cQ eC rfl rfl)) (h:=?_);refine aZ (i:=9) (hq:=(cM (V:=λ y:Cd×Fr×AS=>.agg ⟨y.1.cells⟩) (Fc:=λ y=>y.2.1) (hs:=[(b,fS a)]) (os:=gI a) (A0:=A) (hs':=λ y=>[(b,fS y.2.2)]) (os':=λ y=>gI y.2.2) (hc:=λ w hw=>Pv ht ha hlv hr ok hm hA hB hw))) (h:=λ x29 h29=>?_);refine J4 ?_;refine kB (i:=12) (hq:=(iZ λ _=>lJ (off:=1) (vs:=x29.1.cells) (cs:=tkC b x29.1 (n+1) true) rf cQ rf (dM _) eC (Nat.le_of_ble_eq_true rfl) rf kM)) (h:=λ _=>?_);refine dY ?_;refine A8 ?_;refine Od ?_
  refine Dy Tryz.results37 (λ w hw=>?_)
  exact⟨x29,rfl,h29,hw.ret (List.Sublist.refl _) (aX.hJ λ f hf=>by simpa using hf) (List.Sublist.refl _)⟩
theorem aq{i m:Nat}(ht:bR t i m)(h:Th0 b t a.mm f cap B)(ok:a.Ok)(hm:a.mm.Small)(hA:∀f∈aM a.L,f∈A)(hB:∀x∈B,x∈A)(hs:SF w D [(b,fS a)] A [] (gI a) w) :
  Calls Tryz.prog 73 #[.iface 42 (.pointer (some ⟨b,0,none⟩)),.func (.func f) #[] ⟨cap⟩] w λ e w'=>∃x:Nat×Cd×Fr×AS,e=.returned (.pointer (some ⟨x.1,0,none⟩))/\(oJ b (Ct.iR t a.mm) a B x.2/\eF (Ct.iR t a.mm).1=true)/\SF w D [(x.1,tO b x.2.1 0),(b,fS x.2.2.2)] [] x.2.2.1 (gI x.2.2.2) w':=by
 refine enter Tryz.func73 Tryz.ntmps73 rfl rfl hs ?_
 simp only[bX]
 refine cO ?_;refine J2 ?_;refine bJ ?_;refine bI (λ x8=>?_);refine xV ?_;refine aD (cM (V:=λ y:Cd×Fr×AS=>.agg ⟨y.1.cells⟩) (Fc:=λ y=>y.2.1) (hs:=[(b,fS a)]) (os:=gI a) (A0:=A) (hs':=λ y=>[(b,fS y.2.2)]) (os':=λ y=>gI y.2.2) (hc:=λ w1 hw=>cm h ok hm hA hB hw)) (λ x11 h11=>?_);refine Nf ?_;refine cP (iZ λ _=>lJ (off:=1) (vs:=x11.1.cells) (cs:=tkC b x11.1 0 false) rf cQ rf (dM _) eC (Nat.le_of_ble_eq_true rfl) rf kM) (λ _=>?_);refine aH ?_;refine J2 ?_;refine J1 ?_
 refine aS Tryz.results73 (λ w hw=>?_)
 exact⟨(x8,x11),rfl,oJ.of ht h11,hw.ret (List.Sublist.refl _) (aX.hJ λ f hf=>by simpa using hf) (List.Sublist.refl _)⟩
end
end

end Go.Proofs.YtbajmaoegmbfgaaGreat
