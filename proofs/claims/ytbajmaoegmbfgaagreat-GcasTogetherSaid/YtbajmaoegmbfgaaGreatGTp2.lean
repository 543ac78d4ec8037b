/- The procedures with shared cells, as trees. -/
import Derived.Test.YtbajmaoegmbfgaaGreatGVw1
import Derived.Test.YtbajmaoegmbfgaaGreatGTr3
import Derived.Test.YtbajmaoegmbfgaaGreatGDfr
import Derived.Test.YtbajmaoegmbfgaaGreatGAr5

set_option linter.unusedSimpArgs false
set_option linter.unusedVariables false
namespace Go.Ct
section
def NI.c0(a:NI):Nv:=a.n.c a.xs a.ys
end
end Go.Ct
namespace Go.Proofs.YtbajmaoegmbfgaaGreat
section
open Go.RowKit Go.Ct
structure gK where
 root:Int
 ro:Bool
structure Cl where
 kind:Int
 t:gK
 a:Int
 b:Int
 n:Int
 index:Int
 hash:Int
 mask:Int
 key:ByteArray
 val:Int
 exp:Int
 I5:Int
 only:Bool
def hJ(h:Nat)(level:Int):Int:=if level<0∨10<level then 0 else(sl h level.toNat:Int)
def yT(p:Int):Nv:=({Nd.zero with kind:=7,bK:=p}:Nd).c [] []
def sV(g:Int):Nv:=({Nd.zero with kind:=2,gen:=g}:Nd).c [] []
def C3(a b c:Int):Nv:=({Nd.zero with kind:=8,bK:=a,exp:=b,new:=c}:Nd).c [] []
def Ha(h:Int)(k:ByteArray)(u:Int):Nv:=({Nd.zero with kind:=4,hash:=h,key:=k,val:=u}:Nd).c [] []
def Mp:Nv:=({Nd.zero with kind:=3}:Nd).c [] []
def yl(v s:Int)(K:Int->Tr):Tr:=.node v λ n=>K (if s=1 then n.new else n.bK)
def vJ(t:gK)(v s:Int)(K:Int->Tr):Tr:=yl v s λ w=>.kY t.root v w λ _=>K w
def Kj(t:gK)(K:Int->Tr):Tr:=.load t.root λ v=>.node v λ n=>if n.kind=2 then K v else .node v λ n=>.load n.status λ s =>
 if s=0 then .node v λ n=>.kY n.status 0 2 λ _=>.node v λ n=>.load n.status λ s=>vJ t v s K else vJ t v s K
def Qc(i m p:Int)(K:Int->Tr):Tr:=.node i λ ni=>.node p λ np=>.kY ni.main m np.bK λ _=>.node p λ np=>K np.bK
def jP(i m:Int)(K:Int->Tr):Tr:=.node m λ nm=>.load nm.prev λ p=>if p=0 then K m else Qc i m p K
def qT(i m p:Int)(c:Bool)(K:Int->Tr):Tr :=
 if c=true then .node m λ nm=>.kY nm.prev p 0 λ _=>jP i m K
 else .node m λ nm=>.alloc (yT p) 0 λ f=>.kY nm.prev p f λ _=>jP i m K
def qR(t:gK)(i m:Int)(K:Int->Tr):Tr:=.node m λ nm=>.load nm.prev λ p=>if p=0 then K m else .node p λ np =>
 if bZ np then(if t.ro=true then qT i m p false K else Kj t λ r=>.node r λ nr=>.node i λ ni=>qT i m p (nr.gen==ni.gen) K)
 else Qc i m p K
def kR(t:gK)(i:Int)(K:Int->Tr):Tr:=.node i λ ni=>.load ni.main λ m=>qR t i m K
def Bc(t:gK)(v:Int)(K:Tr):Tr:=.node v λ n=>kR t n.bK λ r=>.node v λ n2=>.node v λ n3=>.kY n3.status 0 (if r=n2.exp then 1 else 2) λ _=>K
def yM(t:gK)(K:Int->Tr):Tr:=.load t.root λ v=>.node v λ n=>if n.kind=2 then K v else .node v λ n=>.load n.status λ s =>
 if s=0 then Bc t v (.node v λ n=>.load n.status λ s=>vJ t v s K) else vJ t v s K
def jO(t:gK)(i bK n:Int)(K:Bool->Tr):Tr:=.node i λ ni=>.kY ni.main bK n λ b=>if b=true then qR t i n λ m=>K (m==n) else K false
def B6(t:gK)(bK exp new:Int)(K:Bool->Tr):Tr:=.alloc (C3 bK exp new) 0 λ d=>.kY t.root bK d λ b =>
 if b=true then Bc t d (.node d λ nd=>.load nd.status λ s=>vJ t d s λ _=>K (s==1)) else K false
noncomputable def Ho (c index r:Int) (K:Int->Tr):Tr:=.node c λ nc=>.alloc (Z8 nc index r) c K
noncomputable def Mz (t:gK) (i c index:Int) (K:Int->Tr):Tr:=.node c λ nc=>kR t ((mL nc index).getD 0) λ m=>.node i λ ni=>.alloc (sV ni.gen) m λ j =>
 Ho c index j λ r=>jO t i c r λ ok=>K (if ok=true then j else 0)
noncomputable def zC (t:gK) (parent child:Int) (h:Nat) (level:Int) (K:Bool->Tr):Tr:=kR t parent λ m=>.node m λ nm =>
 if mL nm (hJ h level)=some child then kR t child λ mc=>.node mc λ nmc =>
  if nmc.kind=5 then .alloc (unV nmc) 0 λ s=>.node m λ nm2=>.alloc (yx (Z8 nm2 (hJ h level) s) level (unV nmc)) m λ r=>jO t parent m r K
  else K false
 else K false
def jK(f:Bool)(v:Int):Rs:=⟨0,f,v,⟨#[]⟩,0,0,0,false⟩
def rJ(f:Bool)(v:Int):Rs:=⟨0,f,v,⟨#[]⟩,1,0,0,false⟩
noncomputable def Dc (t:gK) (h:Nat) (key:ByteArray) (K:Rs->Tr):Nat->Int->Int->Tr
 | 0,_,_=>.stuck
 | n+1,i,level=>kR t i λ mr=>.node mr λ m =>
  if m.kind=5 then(if m.key=key then K (jK true m.val) else K (jK false 0))
  else if m.kind=6 then K (jK (dS m.ys key).isSome ((dS m.ys key).getD 0))
  else match mL m (hJ h level) with
   | none=>K (jK false 0)
   | some b=>.node b λ s=>if s.kind=4 then(if s.key=key then K (jK true s.val) else K (jK false 0)) else Dc t h key K n b (level+1)
def nR(c:Cl)(found:Bool)(v:Int):Bool:=if c.I5=1 then !found else if c.I5=2 then found else if c.I5=3 then found&&v==c.exp else true
def Ax:List NI->Int->(Int->Tr)->Tr
 | [],r,K=>K r
 | a::l,_,K=>.alloc a.c0 a.init λ r=>Ax l r K
def dP(at_:Int)(h0 h:Nat)(p:Pr)(k:ByteArray)(u gen:Int)(fi lvl:Nat):List NI:=dN at_ h0 h p k u gen fi (lC h0 h-lvl) (lC h0 h-(lC h0 h-lvl))
def Wq(c:Cl)(b:Int)(h:Nat)(level:Nat)(gen:Int)(K:Int->Tr):Tr:=.node b λ nb =>
 .alloc ((dP b nb.hash.toNat h (nb.key,nb.val) c.key c.val gen 0 level).headD NI.no).c0 ((dP b nb.hash.toNat h (nb.key,nb.val) c.key c.val gen 0 level).headD NI.no).init λ f =>
 Ax (dP b nb.hash.toNat h (nb.key,nb.val) c.key c.val gen f.toNat level).tail f K
noncomputable def mD (c:Cl) (i m:Int) (h:Nat) (level:Nat) (gen:Int) (K:Rs->Int->Tr):Tr:=.node m λ n =>
 if n.kind=6 then
  (if nR c (dS n.ys c.key).isSome ((dS n.ys c.key).getD 0)=true then
   .alloc (w3 n c.key c.val) m λ r=>jO c.t i m r λ ok=>K (rJ (dS n.ys c.key).isSome ((dS n.ys c.key).getD 0)) (if ok=true then 1 else 0)
  else K (jK (dS n.ys c.key).isSome ((dS n.ys c.key).getD 0)) 1)
 else match mL n (hJ h level) with
  | none=>if nR c false 0=true then .alloc (Ha h c.key c.val) 0 λ s=>.alloc (ze n (hJ h level) s) m λ r=>jO c.t i m r λ ok=>K (rJ false 0) (if ok=true then 1 else 0) else K (jK false 0) 1
  | some b=>.node b λ nb=>if nb.kind=2 then K Rs.zero 2 else
   if nb.key=c.key then
    (if nR c true nb.val=true then .alloc (Ha h c.key c.val) 0 λ s=>Ho m (hJ h level) s λ r=>jO c.t i m r λ ok=>K (rJ true nb.val) (if ok=true then 1 else 0)
    else K (jK true nb.val) 1)
   else
    (if nR c false 0=true then Wq c b h (level+1) gen λ d=>.alloc (sV gen) d λ j=>Ho m (hJ h level) j λ r=>jO c.t i m r λ ok=>K (rJ false 0) (if ok=true then 1 else 0)
    else K (jK false 0) 1)
noncomputable def H0 (c:Cl) (i m index gen:Int) (K:Int->Tr):Tr:=.node m λ nm=>.node ((mL nm index).getD 0) λ nb=>if nb.gen=gen then K ((mL nm index).getD 0) else Mz c.t i m index K
noncomputable def Dx (c:Cl) (h:Nat) (K:Rs->Tr) (again:Tr) (gen:Int):Nat->Int->Int->Nat->Tr
 | 0,_,_,_=>.stuck
 | n+1,i,parent,level=>kR c.t i λ m=>.node m λ nm =>
  if nm.kind=5 then zC c.t parent i h ((level:Int)-1) λ _=>again
  else mD c i m h level gen λ r what=>if what=1 then K r else if what=0 then again else
   H0 c i m (hJ h level) gen λ b=>if b=0 then again else Dx c h K again gen n b i (level+1)
noncomputable def Gm (c:Cl) (h:Nat) (K:Rs->Tr):Nat->Tr
 | 0=>.stuck
 | n+1=>yM c.t λ i=>.node i λ ni=>Dx c h K (Gm c h K n) ni.gen n i 0 0
noncomputable def kC (c:Cl) (i m:Int) (h:Nat) (level:Nat) (K:Rs->Int->Tr):Tr:=.node m λ n =>
 if n.kind=6 then
  (if(dS n.ys c.key).isSome=false∨(c.only=true/\(dS n.ys c.key).getD 0≠c.exp) then K (jK (dS n.ys c.key).isSome ((dS n.ys c.key).getD 0)) 1
  else .alloc (s4 n c.key) m λ r=>jO c.t i m r λ ok=>K (rJ true ((dS n.ys c.key).getD 0)) (if ok=true then 1 else 0))
 else match mL n (hJ h level) with
  | none=>K (jK false 0) 1
  | some b=>.node b λ s=>if s.kind=2 then K Rs.zero 2 else if s.key≠c.key then K (jK false 0) 1 else if c.only=true/\s.val≠c.exp then K (jK true s.val) 1
   else .node ((Lr (Ns n (hJ h level))).getD 0) λ so=>.alloc (yx (Ns n (hJ h level)) level so) m λ r=>jO c.t i m r λ ok=>K (rJ true s.val) (if ok=true then 1 else 0)
noncomputable def um (t:gK) (path:List Int) (h:Nat) (K:Tr):Nat->Tr
 | 0=>K
 | l+1=>kR t (path.getD (l+1) 0) λ m=>.node m λ nm=>if nm.kind=5 then zC t (path.getD l 0) (path.getD (l+1) 0) h (l:Int) λ _=>um t path h K l else K
noncomputable def vS (c:Cl) (h:Nat) (K:Rs->Tr) (again:Tr) (gen:Int):Nat->Int->List Int->Nat->Tr
 | 0,_,_,_=>.stuck
 | n+1,i,path,level=>kR c.t i λ m=>.node m λ nm =>
  if nm.kind=5 then zC c.t (path.getD (level-1) 0) i h ((level:Int)-1) λ _=>again
  else kC c i m h level λ r what=>if what=1 then(if r.gI=1 then um c.t path h (K r) (path.length-1) else K r) else if what=0 then again else
   H0 c i m (hJ h level) gen λ b=>if b=0 then again else vS c h K again gen n b (path++[b]) (level+1)
noncomputable def wN (c:Cl) (h:Nat) (K:Rs->Tr):Nat->Tr
 | 0=>.stuck
 | n+1=>yM c.t λ i=>.node i λ ni=>vS c h K (wN c h K n) ni.gen n i [i] 0
def Pk(root:Int)(ro:Bool):Rs:=⟨0,true,0,⟨#[]⟩,0,0,root,ro⟩
def Pq(m:Int)(K:Rs->Tr):Tr:=.gen λ g=>.alloc (sV g) m λ r=>.cell r λ c=>K (Pk c false)
def Lh(t:gK)(fz:Bool)(K:Rs->Tr):Nat->Tr
 | 0=>.stuck
 | n+1=>yM t λ r=>kR t r λ m=>.gen λ g=>.alloc (sV g) m λ j=>B6 t r m j λ ok =>
  if ok=true then(if fz=true then .cell r λ c=>K (Pk c true) else Pq m K) else Lh t fz K n
def tN(t:gK)(fz:Bool)(K:Rs->Tr)(n:Nat):Tr :=
 if t.ro=true then .load t.root λ r=>if fz=true then .cell r λ c=>K (Pk c true) else kR t r λ m=>Pq m K
 else Lh t fz K n
def zT(t:gK)(K:Rs->Tr):Nat->Tr
 | 0=>.stuck
 | n+1=>yM t λ r=>kR t r λ m=>.alloc Mp 0 λ c=>.gen λ g=>.alloc (sV g) c λ j=>B6 t r m j λ ok =>
  if ok=true then K (jK true 0) else zT t K n
def lV(r:Int)(f:Bool):Rs:=⟨0,f,0,⟨#[]⟩,0,r,0,false⟩
def refuse(c:Cl):Int:=if c.kind=7∨c.kind=9 then(if c.key.size<=64 then 0 else 1) else if c.kind=8 then(if c.key.size<=64/\0<=c.I5/\c.I5<=3 then 0 else 1) else 0
noncomputable def kU (c:Cl) (h:Nat) (n:Nat):Tr :=
 if refuse c≠0 then .done {Rs.zero with err:=refuse c}
 else if c.kind=1 then kR c.t c.a λ r=>.done (lV r false)
 else if c.kind=2 then jO c.t c.a c.b c.n λ ok=>.done (lV 0 ok)
 else if c.kind=3 then yM c.t λ r=>.done (lV r false)
 else if c.kind=4 then B6 c.t c.a c.b c.n λ ok=>.done (lV 0 ok)
 else if c.kind=7 then yM c.t λ i=>Dc c.t h c.key .done n i 0
 else if c.kind=8 then Gm c h .done n
 else if c.kind=9 then wN c h .done n
 else if c.kind=10 then tN c.t false .done n
 else if c.kind=11 then tN c.t true .done n
 else zT c.t .done n
end

/- Codes with a store: what they mean as trees. -/
end Go.Proofs.YtbajmaoegmbfgaaGreat
namespace Go.Ct
section
open Go Go.RowKit
structure AS where
 L:List aP
 cs:List Int
 gen:Int
 acc:Int
 pn:Option Addr
 cn:Nat
 pc:Option Addr
 cc:Nat
def AS.mm(a:AS):Mm:=⟨(cZ a.L).map aP.c,a.cs,a.gen⟩
structure Zv(s:Mm):Prop where
 nd:∀v∈s.nodes,lD s.nodes.length s.cs.length v
 cs:∀v∈s.cs,v<=s.nodes.length
 two:2<=s.nodes.length
structure AS.Ok(a:AS):Prop where
 fit:Fits a.L
 mo:Zv a.mm
structure Mm.Le(s s1:Mm):Prop where
 nodes:∃N,s1.nodes=s.nodes++N
 cl:s.cs.length<=s1.cs.length
def Mm.Small(s:Mm):Prop:=s.nodes.length<=137438953472/\s.cs.length<=137438953472
structure AS.jF(a a':AS)(F:Fr):Prop where
 le:a.mm.Le a'.mm
 fam:∀f∈aK a'.L,f.2=[]∨f∈aK a.L∨f∈F
theorem Mm.Le.refl(s:Mm):s.Le s:=⟨⟨[],by simp⟩,Nat.le_refl _⟩
theorem Mm.Le.trans{s t u:Mm}(h:s.Le t)(h2:t.Le u):s.Le u:=by
 obtain⟨⟨N,e⟩,c⟩:=h
 obtain⟨⟨M,e2⟩,c2⟩:=h2
 exact⟨⟨N++M,by rw[e2,e,List.append_assoc]⟩,Nat.le_trans c c2⟩
theorem Mm.Le.len{s t:Mm}(h:s.Le t):s.nodes.length<=t.nodes.length:=by obtain⟨N,e⟩:=h.nodes;rw[e,List.length_append];omega
theorem Mm.Le.nd{s t:Mm}(h:s.Le t){r:Int}(hr:r<=s.nodes.length):cD t.nodes r=cD s.nodes r:=by obtain⟨N,e⟩:=h.nodes;rw[e];exact Fz hr
theorem AS.jF.refl(a:AS):a.jF a []:=⟨Mm.Le.refl _,λ f hf=>.inr (.inl hf)⟩
theorem AS.jF.more{a a':AS}{F F':Fr}(h:a.jF a' F)(hs:∀f∈F,f∈F'):a.jF a' F':=⟨h.le,λ f hf=>(h.fam f hf).imp_right λ h=>h.imp_right λ h=>hs f h⟩
theorem AS.jF.trans{a b c:AS}{F G:Fr}(h:a.jF b F)(h2:b.jF c G):a.jF c (G++F):=⟨h.le.trans h2.le,λ f hf=>by
 rcases h2.fam f hf with h1|h1|h1
 ·exact .inl h1
 ·rcases h.fam f h1 with h1|h1|h1
  ·exact .inl h1
  ·exact .inr (.inl h1)
  ·exact .inr (.inr (List.mem_append_right _ h1))
 ·exact .inr (.inr (List.mem_append_left _ h1))⟩
theorem Zv.at{s:Mm}(h:Zv s)(r:Int):lD s.nodes.length s.cs.length (cD s.nodes r):=by
 unfold cD
 split
 ·refine h.nd _ ?_
  rw[jH,List.getElem?_eq_getElem (by omega)]
  exact List.getElem_mem _
 ·exact Oo _ _
theorem Zv.cell{s:Mm}(h:Zv s)(c:Int):bU s.cs c<=s.nodes.length:=by
 unfold bU
 split
 ·exact mM h.cs _
 ·exact bH _
theorem Zv.kY{s:Mm}(h:Zv s){c o n:Int}(hn:n<=s.nodes.length):Zv ⟨s.nodes,eU s.cs c o n,s.gen⟩:=by
 refine⟨λ v hv=>by simp only[iC];exact h.nd v hv,λ v hv=>?_,h.two⟩
 simp only[eU] at hv
 split at hv
 ·rcases List.mem_or_eq_of_mem_set hv with hv|rfl
  ·exact h.cs v hv
  ·exact hn
 ·exact h.cs v hv
def iO:Tr->Mm->Tr×Mm
 | .alloc n i k,s=>iO (k ((s.nodes.length+1:Nat):Int)) (s.push n i)
 | .cell i k,s=>iO (k ((s.cs.length+1:Nat):Int)) ⟨s.nodes,s.cs++[i],s.gen⟩
 | .gen k,s=>iO (k (s.gen+1)) ⟨s.nodes,s.cs,s.gen+1⟩
 | .node r k,s=>iO (k (cD s.nodes r)) s
 | t,s=>(t,s)
def nxT:Tr->Mm->Tr×Mm
 | .load c k,s=>(k (bU s.cs c),s)
 | .kY c o n k,s=>(k (dq s.cs c o),⟨s.nodes,eU s.cs c o n,s.gen⟩)
 | t,s=>(t,s)
def Bn(p:Tr×Mm):Tr×Mm:=iO (nxT p.1 p.2).1 (nxT p.1 p.2).2
def Tr.live:Tr->Bool
 | .done _=>false
 | _=>true
def uM(p:Tr×Mm):Nat->Tr×Mm
 | 0=>p
 | k+1=>Bn (uM p k)
theorem aBT{t t':Tr}{s s':Mm}(h:Lp t s t' s'):nxT t s=(t',s')/\∀u,iO t u=(t,u):=by
 cases h with
 | load c k s=>exact⟨rfl,λ _=>rfl⟩
 | kY c o n k s b hb=>rw[Ww hb];exact⟨rfl,λ _=>rfl⟩
theorem lq{t t':Tr}{s s':Mm}(h:Sp t s t' s'):iO t s=iO t' s':=by
 cases h<;>rfl
theorem fq{j:Nat}{t t':Tr}{s s':Mm}(h:Rc j t s t' s'):(j=0->iO t s=iO t' s')/\(j=1->Bn (iO t s)=iO t' s'):=by
 induction h with
 | refl t s=>exact⟨λ _=>rfl,λ h=>nomatch h⟩
 | iO _ hs ih=>exact⟨λ e=>(ih.1 e).trans (lq hs),λ e=>(ih.2 e).trans (lq hs)⟩
 | loud _ hs ih =>
  refine⟨(λ e=>nomatch e),λ e=>?_⟩
  obtain⟨h1,h2⟩:=aBT hs
  rw[ih.1 (by omega),h2]
  unfold Bn
  rw[h1]
end
end Go.Ct
namespace Go.Proofs.YtbajmaoegmbfgaaGreat
section
open Go Go.RowKit Go.Ct
theorem Ie{t:Tr}(h:eH t=true)(s:Mm):iO t s=(t,s):=by
 cases t<;>first|rfl|cases h
theorem zb{t t':Tr}{s s':Mm}(h:Rc 0 t s t' s')(ha:eH t'=true):iO t s=(t',s'):=by rw[(fq h).1 rfl,Ie ha]
theorem xg{t t':Tr}{s s':Mm}(h:Rc 1 t s t' s')(h0:eH t=true)(ha:eH t'=true):Bn (t,s)=(t',s'):=by rw[<- Ie h0 s,(fq h).2 rfl,Ie ha]
abbrev fH(a:AS):Obj:=aO a.L a.cs a.gen a.acc a.pn a.cn a.pc a.cc
abbrev fM(a:AS):List Ow:=mW a.L a.cs a.pn a.cn a.pc a.cc
def Ea(b:Nat)(R:Cd->Mm->Fr->Prop)(a:AS)(B:Fr)(D:List Nat)(w:World):Ending->World->Prop:=λ e w'=>∃y:Cd×Fr×AS,e=.returned (.agg ⟨y.1.cells⟩)/\(R y.1 y.2.2.mm (y.2.1++B)/\y.2.2.Ok/\a.jF y.2.2 y.2.1)/\SF w D [(b,fH y.2.2)] [] y.2.1 (fM y.2.2) w'
def zK(b:Nat)(f:FuncId)(cap:List Value)(arg:List Value)(B:Fr)(s:Mm)(R:Cd->Mm->Fr->Prop):Prop :=
 ∀(a:AS) (D:List Nat) (A:Fr) (w:World),a.mm=s->a.Ok->s.Small->(∀f∈aK a.L,f∈A)->(∀f∈B,f∈A)->SF w D [(b,fH a)] A [] (fM a) w->Calls Tryz.prog f ⟨arg++cap⟩ w (Ea b R a B D w)
def kZ(b:Nat):Tr->Mm->Cd->Mm->Fr->Prop
 | .done r,s,c,s2,_=>s2=s/\c=B3 r
 | .load x k,s,c,s2,B=>s2=s/\x<=9223372036854775807/\∃f cap,c=sH x f cap/\plain Tryz.prog f=true/\∀(v:Int) (s1:Mm),s.Le s1->v<=s1.nodes.length->zK b f cap [.int .i64 v] B s1 λ c' s' B'=>kZ b (k v) s1 c' s' B'
 | .kY x o n k,s,c,s2,B=>s2=s/\x<=9223372036854775807/\n<=s.nodes.length/\∃f cap,c=yL x o n f cap/\plain Tryz.prog f=true/\∀(v:Bool) (s1:Mm),s.Le s1->zK b f cap [.bool v] B s1 λ c' s' B'=>kZ b (k v) s1 c' s' B'
 | .alloc n i k,s,c,s2,B=>kZ b (k ((s.nodes.length+1:Nat):Int)) (s.push n i) c s2 B
 | .cell i k,s,c,s2,B=>kZ b (k ((s.cs.length+1:Nat):Int)) ⟨s.nodes,s.cs++[i],s.gen⟩ c s2 B
 | .gen k,s,c,s2,B=>kZ b (k (s.gen+1)) ⟨s.nodes,s.cs,s.gen+1⟩ c s2 B
 | .node r k,s,c,s2,B=>r<=s.nodes.length/\kZ b (k (cD s.nodes r)) s c s2 B
 | .stuck,_,_,_,_=>True
def Ex(b:Nat)(K:Int->Tr)(s:Mm)(f:FuncId)(cap:List Value)(B:Fr):Prop:=plain Tryz.prog f=true/\∀(v:Int) (s1:Mm),s.Le s1->v<=s1.nodes.length->zK b f cap [.int .i64 v] B s1 λ c' s' B'=>kZ b (K v) s1 c' s' B'
def Yg(b:Nat)(K:Bool->Tr)(s:Mm)(f:FuncId)(cap:List Value)(B:Fr):Prop:=plain Tryz.prog f=true/\∀(v:Bool) (s1:Mm),s.Le s1->zK b f cap [.bool v] B s1 λ c' s' B'=>kZ b (K v) s1 c' s' B'
def Th0(b:Nat)(t:Tr)(s:Mm)(f:FuncId)(cap:List Value)(B:Fr):Prop:=plain Tryz.prog f=true/\∀s1:Mm,s.Le s1->zK b f cap [] B s1 λ c' s' B'=>kZ b t s1 c' s' B'
section
variable{b:Nat}{f:FuncId}{cap arg:List Value}{B B2:Fr}{s s1 s2:Mm}{t:Tr}{c:Cd}
theorem zK.more{R R2:Cd->Mm->Fr->Prop}(h:zK b f cap arg B s R)(hb:∀x∈B,x∈B2)(hR:∀c m C C2,(∀x∈C,x∈C2)->R c m C->R2 c m C2):zK b f cap arg B2 s R2:=λ a D A w e1 ok hs h1 h2 hw =>
 (h a D A w e1 ok hs h1 (λ x hx=>h2 x (hb x hx)) hw).mono λ e w' ⟨y,he,⟨hr,h3⟩,hs⟩=>⟨y,he,⟨hR _ _ _ _ (λ x hx=>by
  rcases List.mem_append.1 hx with h1|h1
  ·exact List.mem_append_left _ h1
  ·exact List.mem_append_right _ (hb x h1)) hr,h3⟩,hs⟩
theorem kZ.more:∀{t:Tr} {s s2:Mm} {c:Cd} {B B2:Fr},kZ b t s c s2 B->(∀x∈B,x∈B2)->kZ b t s c s2 B2
 | .done _,_,_,_,_,_,h,_=>h
 | .load _ k,_,_,_,_,_,⟨h0,h1,f,cap,h2,h3,h4⟩,hb=>⟨h0,h1,f,cap,h2,h3,λ v s1 l hv=>(h4 v s1 l hv).more hb λ _ _ _ _ hC h=>kZ.more (t:=k v) h hC⟩
 | .kY _ _ _ k,_,_,_,_,_,⟨h0,h1,hn,f,cap,h2,h3,h4⟩,hb=>⟨h0,h1,hn,f,cap,h2,h3,λ v s1 l=>(h4 v s1 l).more hb λ _ _ _ _ hC h=>kZ.more (t:=k v) h hC⟩
 | .alloc n i k,s,_,_,_,_,h,hb=>kZ.more (t:=k ((s.nodes.length+1:Nat):Int)) h hb
 | .cell i k,s,_,_,_,_,h,hb=>kZ.more (t:=k ((s.cs.length+1:Nat):Int)) h hb
 | .gen k,s,_,_,_,_,h,hb=>kZ.more (t:=k (s.gen+1)) h hb
 | .node r k,s,_,_,_,_,h,hb=>⟨h.1,kZ.more (t:=k (cD s.nodes r)) h.2 hb⟩
 | .stuck,_,_,_,_,_,_,_=>trivial
theorem Ex.more{K:Int->Tr}(h:Ex b K s f cap B)(hb:∀x∈B,x∈B2):Ex b K s f cap B2:=⟨h.1,λ v s1 l hv=>(h.2 v s1 l hv).more hb λ _ _ _ _ hC h=>kZ.more h hC⟩
theorem Yg.more{K:Bool->Tr}(h:Yg b K s f cap B)(hb:∀x∈B,x∈B2):Yg b K s f cap B2:=⟨h.1,λ v s1 l=>(h.2 v s1 l).more hb λ _ _ _ _ hC h=>kZ.more h hC⟩
theorem Ex.le{K:Int->Tr}(h:Ex b K s f cap B)(l:s.Le s1):Ex b K s1 f cap B:=⟨h.1,λ v s2 l2 hv=>h.2 v s2 (l.trans l2) hv⟩
theorem Yg.le{K:Bool->Tr}(h:Yg b K s f cap B)(l:s.Le s1):Yg b K s1 f cap B:=⟨h.1,λ v s2 l2=>h.2 v s2 (l.trans l2)⟩
theorem kZ.kind(h:kZ b t s c s2 B)(ha:eH t=true):(c.a.k=0↔t.live=false)/\(∀r,t=.done r->c.r=r)/\(∀x,t.acc=some x->c.a=x):=by
 cases t with
 | done r=>rw[h.2];exact⟨⟨λ _=>rfl,λ _=>rfl⟩,(λ r e=>by cases e;rfl),(λ x e=>nomatch e)⟩
 | load x k =>
  obtain⟨_,_,f,cap,e,_⟩:=h
  rw[e]
  exact⟨⟨λ h=>absurd h (show(1:Int)≠0 by decide),(λ h=>nomatch h)⟩,(λ r e=>nomatch e),λ x e=>by cases e;rfl⟩
 | kY x o n k =>
  obtain⟨_,_,_,f,cap,e,_⟩:=h
  rw[e]
  exact⟨⟨λ h=>absurd h (show(2:Int)≠0 by decide),(λ h=>nomatch h)⟩,(λ r e=>nomatch e),λ x e=>by cases e;rfl⟩
 | alloc n i k=>cases ha
 | cell i k=>cases ha
 | gen k=>cases ha
 | node r k=>cases ha
 | stuck=>cases ha
theorem kZ.le(h:kZ b t s c s2 B)(ha:eH t=true)(l:s.Le s1):kZ b t s1 c s1 B:=by
 cases t with
 | done r=>exact⟨rfl,h.2⟩
 | load x k =>
  obtain⟨_,h1,f,cap,e,hp,hk⟩:=h
  exact⟨rfl,h1,f,cap,e,hp,λ v s3 l3 hv=>hk v s3 (l.trans l3) hv⟩
 | kY x o n k =>
  obtain⟨_,h1,hn,f,cap,e,hp,hk⟩:=h
  exact⟨rfl,h1,by have:=l.len;omega,f,cap,e,hp,λ v s3 l3=>hk v s3 (l.trans l3)⟩
 | alloc n i k=>cases ha
 | cell i k=>cases ha
 | gen k=>cases ha
 | node r k=>cases ha
 | stuck=>cases ha
theorem kZ.iO:∀{t:Tr} {s s2:Mm} {c:Cd} {n m:Nat},bR t n m->kZ b t s c s2 B->(iO t s).2=s2/\eH (iO t s).1=true/\kZ b (iO t s).1 s2 c s2 B
 | .done _,_,_,_,_,_,_,h=>by obtain⟨rfl,h2⟩:=h;exact⟨rfl,rfl,rfl,h2⟩
 | .load _ k,_,_,_,_,_,_,h=>by obtain⟨rfl,h2⟩:=h;exact⟨rfl,rfl,rfl,h2⟩
 | .kY _ _ _ k,_,_,_,_,_,_,h=>by obtain⟨rfl,h2⟩:=h;exact⟨rfl,rfl,rfl,h2⟩
 | .alloc n i k,s,_,_,_,0,ht,h=>ht.elim
 | .alloc n i k,s,_,_,_,_+1,ht,h=>kZ.iO (t:=k ((s.nodes.length+1:Nat):Int)) (ht _) h
 | .cell i k,s,_,_,_,0,ht,h=>ht.elim
 | .cell i k,s,_,_,_,_+1,ht,h=>kZ.iO (t:=k ((s.cs.length+1:Nat):Int)) (ht _) h
 | .gen k,s,_,_,_,0,ht,h=>ht.elim
 | .gen k,s,_,_,_,_+1,ht,h=>kZ.iO (t:=k (s.gen+1)) (ht _) h
 | .node r k,s,_,_,_,_,ht,h=>kZ.iO (t:=k (cD s.nodes r)) (ht _) h.2
 | .stuck,_,_,_,_,_,ht,_=>ht.elim
end
section
variable{S:List (Nat×Value)}{w0 w:World}{M:List Nat}{H:List (Nat×Obj)}{A F:Fr}{O:List Ow}{ty:TypeId}{pos:String}{af:Array Edge}{gd:Option (Nat×Bool)}{X:Type}{V:X->Value}
theorem cMf{φ:X->Prop}{hs H':List (Nat×Obj)}{os O':List Ow}{hs' H1:X->List (Nat×Obj)}{os' O1:X->List Ow}{Fc F1:X->Fr}{A0:Fr}{is js:List Nat}{f:FuncId}{cap:List Value}{xs:List Operand}{at_:Array TypeId}{vs:List Value}{dst:Option Nat}{x:Operand}
  (hx:ev S x=.func (.func f) #[] ⟨cap⟩:=by exact rfl) (ha:qS S xs=vs:=by(repeat (first|exact dC _|(apply cI;focus ((conv=>{lhs;whnf});try exact rfl))));first|done|fail) (hp:plain Tryz.prog f=true)
  (hc:∀w,SF w (Ks hs os) hs A0 [] os w->Calls Tryz.prog f ⟨vs++cap⟩ w λ e w'=>∃x,e=.returned (V x)/\φ x/\SF w (Ks hs os) (hs' x) [] (Fc x) (os' x) w')
  (hH:lX H is hs H':=by(repeat (first|exact lX.nil|(apply lX.cons;(focus ((repeat (first|exact yN.head|apply yN.tail));done));simp only[qF])));first|done|fail)
  (hO:lX O js os O':=by(repeat (first|exact lX.nil|(apply lX.cons;(focus ((repeat (first|exact yN.head|apply yN.tail));done));simp only[qF])));first|done|fail)
  (hA:aW A F O' A0:=by exact aW.of (λ _ h=>Or.inr (Or.inl h)))
  (hl1:∀x,is.length=(hs' x).length:=by intro x;exact rfl) (hl2:∀x,js.length=(os' x).length:=by intro x;exact rfl)
  (hH1:∀x,iQ is (hs' x) H'=H1 x:=by intro x;first|(simp only[iQ,qW];exact rfl)|exact rfl) (hF1:∀x,Fc x++F=F1 x:=by intro x;first|(simp only[List.nil_append,List.cons_append];exact rfl)|exact rfl) (hO1:∀x,iQ js (os' x) O'=O1 x:=by intro x;simp only[iQ,qW,mW];exact rfl) :
  bE Tryz.prog S (SF w0 M H A F O) ⟨dst,.call {callee:=.value x,args:=⟨xs⟩,argTypes:=at_},ty,pos,af,gd⟩ X V (λ x w=>φ x/\SF w0 M (H1 x) A (F1 x) (O1 x) w) :=
 hZ (qx hx hp ha) λ w hw=>(hc w (hw.pP hH hO hA)).mono λ _ _ ⟨x,he,hx,hs⟩=>⟨x,he,hx,by
  have:=hw.xL (hs':=hs' x) (Hc:=[]) (os':=os' x) (Oc:=[]) hH hO (by simpa using hs) (hl1 x) (hl2 x)
  rw[<- hH1 x,<- hF1 x,<- hO1 x]
  simpa using this⟩
end
end

/- Tasks: Done, Next, Result, Steps. -/
end Go.Proofs.YtbajmaoegmbfgaaGreat
namespace Go.Ct
section
open Go Go.RowKit
theorem SF.same{w w':World}{b:Nat}{o:Obj}(h:SF w [b] [(b,o)] [] [] [] w')(hb:w.heap[b]?=some o):St w [] [] w' :=
 ⟨h.st.os,h.st.tape,h.st.output,h.st.size,λ k hk _=>by
  by_cases e:k=b
  ·subst e;rw[h.st.has (k,o) (List.mem_singleton.2 rfl),hb]
  ·exact h.st.jW k hk (by simpa using e),λ _ h=>(List.not_mem_nil h).elim,λ _ h=>(List.not_mem_nil h).elim,List.nodup_nil⟩
theorem SF.Uz{w:World}{b:Nat}{o:Obj}(hb:w.heap[b]?=some o):SF w [b] [(b,o)] [] [] [] w :=
 ⟨⟨rfl,rfl,rfl,Nat.le_refl _,λ _ _ _=>rfl,λ p hp=>by rw[List.mem_singleton.1 hp];exact hb,λ p hp=>by rw[List.mem_singleton.1 hp];exact .inl (List.mem_singleton.2 rfl),by simp⟩,λ _ h=>(List.not_mem_nil h).elim,λ _ h=>(List.not_mem_nil h).elim,λ _ h=>(List.not_mem_nil h).elim,by simp[Ks]⟩
end
end Go.Ct
namespace Go.Proofs.YtbajmaoegmbfgaaGreat
section
open Go Go.RowKit Go.Ct
abbrev tkC(b:Nat)(c:Cd)(n:Nat)(z:Bool):List Value:=[.iface 42 (.pointer (some ⟨b,0,none⟩)),.int .i64 c.a.k,.int .i64 c.a.c,.int .i64 c.a.o,.int .i64 c.a.n,fnV c.f,fnV c.g,.int .i64 c.r.err,.bool c.r.found,.int .u64 c.r.val,.string c.r.key,.int .i64 c.r.gI,.int .i64 c.r.ref,.int .i64 c.r.root,.bool c.r.ro,.int .i64 ((n:Nat):Int),.bool z]
abbrev tO(b:Nat)(c:Cd)(n:Nat):Obj:=.cells ⟨tkC b c n false⟩ 141 (0,0)
section
variable{D:List Nat}{A B:Fr}{L:List aP}{cs:List Int}{gen acc:Int}{pn pc:Option Addr}{cn cc b bt n:Nat}{w:World}{c:Cd}
theorem wI(h:w.heap[bt]?=some (tO b c n)):Calls Tryz.prog 33 #[.pointer (some ⟨bt,0,none⟩)] w λ e w'=>e=.returned (.bool (c.a.k==0))/\St w [] [] w':=by
 refine enter Tryz.func33 Tryz.ntmps33 rfl rfl (SF.Uz h) ?_
 simp only[bX]
 refine cO ?_;refine Ia ?_;refine aE ?_;refine J3 ?_;refine Ro ?_
 refine aT Tryz.results33 (λ w hw=>?_)
 exact⟨rfl,hw.aU.same h⟩
theorem Kv(h:w.heap[bt]?=some (tO b c n)):Calls Tryz.prog 63 #[.pointer (some ⟨bt,0,none⟩)] w λ e w'=>e=.returned (.int .i64 ((n:Nat):Int))/\St w [] [] w':=by
 refine enter Tryz.func63 Tryz.ntmps63 rfl rfl (SF.Uz h) ?_
 simp only[bX]
 refine cO ?_;refine lW ?_;refine J1 ?_
 refine aT Tryz.results63 (λ w hw=>?_)
 exact⟨rfl,hw.aU.same h⟩
theorem bz (h:w.heap[bt]?=some (tO b c n)):Calls Tryz.prog 133 #[.pointer (some ⟨bt,0,none⟩)] w fun e w'=>e=.returned (.tuple #[.agg ⟨(if c.a.k=0 then Ac.zero else c.a).cells⟩,.bool (c.a.k != 0)])∧St w [] [] w':=by
 refine enter Tryz.func133 Tryz.ntmps133 rfl rfl (SF.Uz h) ?_
 simp only [bX]
 refine J0 ?_;refine aJ (fun x2=>?_);refine iB ?_;refine J2 ?_;refine aS (cV (hc:=fun w1 hw=>wI (hw.st.at cQ))) (fun x5=>?_);refine aH ?_
 refine bB (fun c5=>?_) (fun c5=>?_)
 ·refine J0 ?_;refine bJ ?_;refine wJ ?_
  refine bC Tryz.results133 (fun w hw=>?_)
  refine⟨?_,hw.aU.same h⟩
  rw [if_pos (by simpa using c5),show (c.a.k != 0)=false by simpa using c5]
  rfl
 ·refine bA ?_;refine Ia ?_;refine aE ?_;refine aC (aQ (k:=4) (vs:=c.a.cells) rf cQ eD rfl rfl) rfl ?_;refine wJ ?_
  refine bC Tryz.results133 (fun w hw=>?_)
  refine⟨?_,hw.aU.same h⟩
  rw [if_neg (by simpa using c5),show (c.a.k != 0)=true by simpa using c5]
  rfl
theorem R4(h:w.heap[bt]?=some (tO b c n)):Calls Tryz.prog 34 #[.pointer (some ⟨bt,0,none⟩)] w λ e w'=>e=.returned (.agg ⟨(if c.a.k=0 then c.r else Rs.zero).cells⟩)/\St w [] [] w':=by
 refine enter Tryz.func34 Tryz.ntmps34 rfl rfl (SF.Uz h) ?_
 simp only[bX]
 refine J0 ?_;refine aJ (λ x2=>?_);refine aH ?_;refine kB ?_;refine aS (cV (hc:=λ w1 hw=>wI (hw.st.at cQ))) (λ x4=>?_);refine oH ?_
 refine bB (λ c5=>?_) (λ c5=>?_)
 ·refine J0 ?_;refine vB ?_
  refine bC Tryz.results34 (λ w hw=>?_)
  refine⟨?_,hw.aU.same h⟩
  rw[if_neg (by simpa using c5)]
  rfl
 ·refine bA ?_;refine Ia ?_;refine aE ?_;refine aC (aQ (k:=8) (vs:=c.r.cells) rf cQ eD rfl rfl) rfl ?_;refine J5 ?_
  refine bC Tryz.results34 (λ w hw=>?_)
  refine⟨?_,hw.aU.same h⟩
  rw[if_pos (by simpa using c5)]
  rfl
end
end

/- Tasks on an arena: how they begin, how they go on. -/
end Go.Proofs.YtbajmaoegmbfgaaGreat
namespace Go.Ct
section
open Go Go.RowKit
abbrev AS.Ym(a:AS)(cs:List Int):AS:={a with cs:=cs,acc:=up a.acc}
theorem AS.Ok.Ym{a:AS}(ok:a.Ok){x o n:Int}(hn:n<=a.mm.nodes.length):(a.Ym (eU a.cs x o n)).Ok:=⟨ok.fit,ok.mo.kY hn⟩
end
end Go.Ct
namespace Go.Proofs.YtbajmaoegmbfgaaGreat
section
open Go Go.RowKit Go.Ct
section
variable{D:List Nat}{A B:Fr}{a:AS}{b bt n:Nat}{w:World}{c:Cd}{t:Tr}{f:FuncId}{cap:List Value}
theorem j8(h:Th0 b t a.mm f cap B)(ok:a.Ok)(hm:a.mm.Small)(hA:∀f∈aK a.L,f∈A)(hB:∀x∈B,x∈A)(hs:SF w D [(b,fH a)] A [] (fM a) w) :
  Calls Tryz.prog 118 #[.func (.func f) #[] ⟨cap⟩] w (Ea b (λ c' s' B'=>kZ b t a.mm c' s' B') a B D w):=by
 obtain⟨hp,h⟩:=h
 refine Tt Tryz.func118 Tryz.ntmps118 rfl rfl hs ?_
 simp only[bX]
 refine gD ?_;refine dR ?_;refine wG (λ x2=>?_);refine iN ?_;refine gD ?_;refine dR ?_;(refine gT (dD (by(repeat (first|exact dC _|(apply cI;focus ((conv=>{lhs;whnf});try exact rfl))));done)) rfl ?_);refine Gy rfl ?_;refine iN ?_;refine gD ?_;refine gD ?_;refine dR ?_;refine oQ ?_;refine gT (Ml rf rf (aA3 _ _ _)) rfl ?_;refine iN ?_
 refine K2 (λ c5=>?_) (λ c5=>?_)
 ·exact nv c5
 ·revert c5;(skip);intro c5
  refine E7 ?_;refine gD ?_;refine dR ?_;refine oQ ?_;refine Ab (cMf (V:=λ y:Cd×Fr×AS=>.agg ⟨y.1.cells⟩) (hs:=[(b,fH a)]) (os:=fM a) (hs':=λ y=>[(b,fH y.2.2)]) (os':=λ y=>fM y.2.2) (Fc:=λ y=>y.2.1) (A0:=A) (f:=f) (cap:=cap) (vs:=[]) (hp:=hp) (hc:=λ w1 hw=>h a.mm (Mm.Le.refl _) a _ A w1 rfl ok hm hA hB hw)) (λ x8 h8=>?_);refine M2 (jA λ _=>bO rf cQ rf (dM _) eD rf kO) (λ _=>?_);refine iN ?_
  refine Fb (Ua _) (by kernel_rfl) Tryz.results118 (.cell rf cQ eD .nil) (λ w hw=>?_)
  exact⟨x8,rfl,h8,hw.ret (by repeat (first|exact List.Sublist.refl _|apply List.Sublist.cons)) (aY.hX λ f hf=>by simpa using hf) (List.Sublist.refl _)⟩
theorem Gp{x:Int}{k:Int->Tr}(hr:kZ b (.load x k) a.mm c a.mm B)(ok:a.Ok)(hm:a.mm.Small)(hA:∀f∈aK a.L,f∈A)(hB:∀x∈B,x∈A)(hs:SF w D [(b,fH a)] A [] (fM a) w) :
  Calls Tryz.prog 86 #[.iface 42 (.pointer (some ⟨b,0,none⟩)),.agg ⟨c.cells⟩] w (Ea b (λ c' s' B'=>kZ b (k (bU a.cs x)) a.mm c' s' B') a B D w):=by
 obtain⟨_,hx,f,cap,rfl,hp,hk⟩:=hr
 have hl:a.cs.length<=274877906944:=by have:=hm.2;show a.mm.cs.length<=_;omega
 have hv:bU a.cs x<=a.mm.nodes.length:=ok.mo.cell x
 refine Tt Tryz.func86 Tryz.ntmps86 rfl rfl hs ?_
 simp only[bX]
 refine gD ?_;refine dR ?_;refine jz (λ x3=>?_);refine wG (λ x4=>?_);refine iN ?_;refine gD ?_;refine dR ?_;(refine gT (dD (by(repeat (first|exact dC _|(apply cI;focus ((conv=>{lhs;whnf});try exact rfl))));done)) rfl ?_);refine Gy rfl ?_;refine iN ?_;refine gD ?_;refine dR ?_;refine eS ?_;refine gT (aQ (k:=4) (vs:=(sH x f cap).a.cells) rf cQ eD rfl rfl) rfl ?_;refine wG (λ x5=>?_);refine Qy (λ _=>?_);refine iN ?_;refine gD ?_;refine gD ?_;refine dR ?_;refine eS ?_;refine nP ?_;refine mg ?_;refine iN ?_
 refine K2 (λ c13=>?_) (λ c13=>?_)
 ·revert c13;(refine cv1 ?_);intro c13
  refine gD ?_;refine dR ?_;refine zW (λ _=>?_);refine iN ?_;refine gD ?_;refine gD ?_;refine dR ?_;refine oQ ?_;refine gT (Wm rf rf (Dy _)) rfl ?_;refine iN ?_
  refine K2 (λ c15=>?_) (λ c15=>?_)
  ·revert c15;(skip);intro c15
   refine dR ?_;refine oQ ?_;refine eS ?_;refine nP ?_;refine Ab (cMI (V:=λ _:Unit=>.int .i64 (bU a.cs x)) (os':=λ _=>fM (a.Ym a.cs)) (hs':=λ _=>[(b,fH (a.Ym a.cs))]) (Fc:=λ _=>[]) (A0:=A) (hm:=λ w=>dh _ _ w) (hc:=λ w hw=>Vc hw x hx hl)) (λ x19 h19=>?_);refine zW (λ _=>?_);refine iN ?_;refine gD ?_;refine gD ?_;refine dR ?_;refine eS ?_;refine nP ?_;refine gT (Ml rf rf (aBJ _ _ _)) rfl ?_;refine iN ?_
   refine K2 (λ c22=>?_) (λ c22=>?_)
   ·exact nv c22
   ·revert c22;(skip);intro c22
    refine E7 ?_;refine gD ?_;refine dR ?_;refine eS ?_;refine nP ?_;refine oQ ?_;refine Ab (cMf (V:=λ y:Cd×Fr×AS=>.agg ⟨y.1.cells⟩) (hs:=[(b,fH (a.Ym a.cs))]) (os:=fM (a.Ym a.cs)) (hs':=λ y=>[(b,fH y.2.2)]) (os':=λ y=>fM y.2.2) (Fc:=λ y=>y.2.1) (A0:=A) (f:=f) (cap:=cap) (vs:=[.int .i64 (bU a.cs x)]) (hp:=hp) (hc:=λ w1 hw=>hk (bU a.cs x) a.mm (Mm.Le.refl _) hv (a.Ym a.cs) _ A w1 rfl ⟨ok.fit,ok.mo⟩ hm hA hB hw)) (λ x27 h27=>?_);refine M2 (jA λ _=>bO rf cQ rf (dM _) eD rf kO) (λ _=>?_);refine iN ?_
    refine Fb (yP _) (by kernel_rfl) Tryz.results86 (.cell rf cQ eD .nil) (λ w hw=>?_)
    exact⟨x27,rfl,⟨h27.1,h27.2.1,⟨h27.2.2.le,h27.2.2.fam⟩⟩,hw.ret (by repeat (first|exact List.Sublist.refl _|apply List.Sublist.cons)) (aY.hX λ f hf=>by simpa using hf) (List.Sublist.refl _)⟩
  ·exact nv c15
 ·revert c13;(refine cv2 ?_);intro c13
  exact(c13 rfl).elim
theorem Jk{x o n:Int}{k:Bool->Tr}(hr:kZ b (.kY x o n k) a.mm c a.mm B)(ok:a.Ok)(hm:a.mm.Small)(hA:∀f∈aK a.L,f∈A)(hB:∀x∈B,x∈A)(hs:SF w D [(b,fH a)] A [] (fM a) w) :
  Calls Tryz.prog 86 #[.iface 42 (.pointer (some ⟨b,0,none⟩)),.agg ⟨c.cells⟩] w (Ea b (λ c' s' B'=>kZ b (k (dq a.cs x o)) ⟨a.mm.nodes,eU a.cs x o n,a.gen⟩ c' s' B') a B D w):=by
 obtain⟨_,hx,hn,f,cap,rfl,hp,hk⟩:=hr
 have hl:a.cs.length<=274877906944:=by have:=hm.2;show a.mm.cs.length<=_;omega
 have hle:a.mm.Le ⟨a.mm.nodes,eU a.cs x o n,a.gen⟩:=⟨⟨[],by simp⟩,by show a.cs.length<=(eU a.cs x o n).length;rw[iC];exact Nat.le_refl _⟩
 have hm2:Mm.Small ⟨a.mm.nodes,eU a.cs x o n,a.gen⟩:=⟨hm.1,by show(eU a.cs x o n).length<=_;rw[iC];exact hm.2⟩
 refine Tt Tryz.func86 Tryz.ntmps86 rfl rfl hs ?_
 simp only[bX]
 refine gD ?_;refine dR ?_;refine jz (λ x3=>?_);refine wG (λ x4=>?_);refine iN ?_;refine gD ?_;refine dR ?_;(refine gT (dD (by(repeat (first|exact dC _|(apply cI;focus ((conv=>{lhs;whnf});try exact rfl))));done)) rfl ?_);refine Gy rfl ?_;refine iN ?_;refine gD ?_;refine dR ?_;refine eS ?_;refine gT (aQ (k:=4) (vs:=(yL x o n f cap).a.cells) rf cQ eD rfl rfl) rfl ?_;refine wG (λ x5=>?_);refine Qy (λ _=>?_);refine iN ?_;refine gD ?_;refine gD ?_;refine dR ?_;refine eS ?_;refine nP ?_;refine mg ?_;refine iN ?_
 refine K2 (λ c13=>?_) (λ c13=>?_)
 ·revert c13;(refine cv1 ?_);intro c13
  exact absurd (show(2:Int)=1 from c13) (by decide)
 ·revert c13;(refine cv2 ?_);intro c13
  refine E7 ?_;refine gD ?_;refine dR ?_;refine oQ ?_;refine gT (Wm rf rf (Dy _)) rfl ?_;refine oQ ?_
  (refine vV ?_;refine oQ ?_)
  ((refine vV ?_;refine eS ?_));((refine vV ?_;refine nP ?_));((refine vV ?_;refine eS ?_));((refine vV ?_;refine nP ?_));((refine vV ?_;refine eS ?_));((refine vV ?_;refine nP ?_));((refine vV ?_;refine Ab (cMI (V:=Value.bool) (os':=λ _=>fM (a.Ym (eU a.cs x o n))) (hs':=λ _=>[(b,fH (a.Ym (eU a.cs x o n)))]) (Fc:=λ _=>[]) (A0:=A) (hm:=λ w=>rk _ _ _ _ w) (hc:=λ w hw=>w7 hw x o n hx hl)) (λ x38 h38=>?_)));refine qg ?_;refine zW (λ _=>?_);refine iN ?_;refine gD ?_;refine gD ?_;refine dR ?_;refine eS ?_;refine nP ?_;refine gT (Ml rf rf (aAD _ _ _)) rfl ?_;refine iN ?_
  refine K2 (λ c42=>?_) (λ c42=>?_)
  ·exact nv c42
  ·revert c42;(skip);intro c42
   refine E7 ?_;refine gD ?_;refine dR ?_;refine eS ?_;refine nP ?_;refine oQ ?_;refine Ab (cMf (V:=λ y:Cd×Fr×AS=>.agg ⟨y.1.cells⟩) (hs:=[(b,fH (a.Ym (eU a.cs x o n)))]) (os:=fM (a.Ym (eU a.cs x o n))) (hs':=λ y=>[(b,fH y.2.2)]) (os':=λ y=>fM y.2.2) (Fc:=λ y=>y.2.1) (A0:=A) (f:=f) (cap:=cap) (vs:=[.bool x38]) (hp:=hp) (hc:=λ w1 hw=>hk x38 _ hle (a.Ym (eU a.cs x o n)) _ A w1 rfl (ok.Ym hn) hm2 hA hB hw)) (λ x47 h47=>?_);refine M2 (jA λ _=>bO rf cQ rf (dM _) eD rf kO) (λ _=>?_);refine iN ?_
   refine Fb (yP _) (by kernel_rfl) Tryz.results86 (.cell rf cQ eD .nil) (λ w hw=>?_)
   exact⟨x47,rfl,⟨Ww h38▸h47.1,h47.2.1,⟨hle.trans h47.2.2.le,h47.2.2.fam⟩⟩,hw.ret (by repeat (first|exact List.Sublist.refl _|apply List.Sublist.cons)) (aY.hX λ f hf=>by simpa using hf) (List.Sublist.refl _)⟩
def mS(b:Nat)(p:Tr×Mm)(a:AS)(B:Fr)(y:Cd×Fr×AS):Prop:=(kZ b p.1 p.2 y.1 p.2 (y.2.1++B)/\y.2.2.mm=p.2)/\y.2.2.Ok/\a.jF y.2.2 y.2.1
theorem mS.of{t0:Tr}{s0:Mm}{y:Cd×Fr×AS}{i m:Nat}(ht:bR t0 i m)(h:kZ b t0 s0 y.1 y.2.2.mm (y.2.1++B)/\y.2.2.Ok/\a.jF y.2.2 y.2.1):mS b (Ct.iO t0 s0) a B y/\eH (Ct.iO t0 s0).1=true:=by
 obtain⟨h1,h2,h3⟩:=kZ.iO ht h.1
 exact⟨⟨⟨by rw[h1];exact h3,h1.symm⟩,h.2⟩,h2⟩
theorem Pz{i m:Nat}(ht:bR t (i+1) m)(ha:eH t=true)(hlv:t.live=true)(hr:kZ b t a.mm c a.mm B)(ok:a.Ok)(hm:a.mm.Small)(hA:∀f∈aK a.L,f∈A)(hB:∀x∈B,x∈A)(hs:SF w D [(b,fH a)] A [] (fM a) w) :
  Calls Tryz.prog 86 #[.iface 42 (.pointer (some ⟨b,0,none⟩)),.agg ⟨c.cells⟩] w λ e w'=>∃y:Cd×Fr×AS,e=.returned (.agg ⟨y.1.cells⟩)/\(mS b (Bn (t,a.mm)) a B y/\eH (Bn (t,a.mm)).1=true)/\SF w D [(b,fH y.2.2)] [] y.2.1 (fM y.2.2) w':=by
 cases t with
 | done r=>cases hlv
 | load x k=>exact(Gp hr ok hm hA hB hs).mono λ e w' ⟨y,he,h,hw⟩=>⟨y,he,mS.of (ht _) h,hw⟩
 | kY x o n k=>exact(Jk hr ok hm hA hB hs).mono λ e w' ⟨y,he,h,hw⟩=>⟨y,he,mS.of (ht _) h,hw⟩
 | alloc n i k=>cases ha
 | cell i k=>cases ha
 | gen k=>cases ha
 | node r k=>cases ha
 | stuck=>cases ha
theorem La{i m:Nat}(ht:bR t (i+1) m)(ha:eH t=true)(hlv:t.live=true)(hr:kZ b t a.mm c a.mm B)(ok:a.Ok)(hm:a.mm.Small)(hn:n<1000000000)(hA:∀f∈aK a.L,f∈A)(hB:∀x∈B,x∈A)(hs:SF w D [(bt,tO b c n),(b,fH a)] A [] (fM a) w) :
  Calls Tryz.prog 37 #[.pointer (some ⟨bt,0,none⟩)] w λ e w'=>∃y:Cd×Fr×AS,e=.returned (.tuple #[])/\(mS b (Bn (t,a.mm)) a B y/\eH (Bn (t,a.mm)).1=true)/\SF w D [(bt,tO b y.1 (n+1)),(b,fH y.2.2)] [] y.2.1 (fM y.2.2) w':=by
 have hk:c.a.k≠0:=λ e=>by have:=(hr.kind ha).1.1 e;rw[hlv] at this;cases this
 refine enter Tryz.func37 Tryz.ntmps37 rfl rfl hs ?_
 simp only[bX]
 refine kB ?_;refine aS (cV (hc:=λ w1 hw=>wI (hw.st.at cQ))) (λ x3=>?_);refine aA ?_
 (refine eE 4 (λ g4=>?_) (λ g4=>?_)<;>(try (exfalso;omega))<;>((refine aF ?_;refine aA ?_)))
 ((refine aF ?_;refine dE ?_));refine J6 ?_;refine cB ?_;refine aH ?_
 refine bB (λ c9=>?_) (λ c9=>?_)
 ·exact nv c9
 ·try (exfalso;omega)
  refine bA ?_;refine J13 ?_;refine uK ?_;refine lW ?_;refine G6 ?_;refine Qj ?_;refine aV ?_;refine gJ [0,1,2,3,4,5,6,7,8,9,10,11,12] ?_;refine Y0 ?_;refine J9 ?_;refine bQ (i:=8) (hq:=(aQ (k:=14) (vs:=c.cells) rf cQ eD rfl rfl)) (h:=?_);refine aZ (i:=9) (hq:=(cM (V:=λ y:Cd×Fr×AS=>.agg ⟨y.1.cells⟩) (Fc:=λ y=>y.2.1) (hs:=[(b,fH a)]) (os:=fM a) (A0:=A) (hs':=λ y=>[(b,fH y.2.2)]) (os':=λ y=>fM y.2.2) (hc:=λ w hw=>Pz ht ha hlv hr ok hm hA hB hw))) (h:=λ x29 h29=>?_);refine J4 ?_;refine kN (i:=12) (hq:=(jA λ _=>lR (off:=1) (vs:=x29.1.cells) (cs:=tkC b x29.1 (n+1) true) rf cQ rf (dM _) eD (Nat.le_of_ble_eq_true rfl) rf kO)) (h:=λ _=>?_);refine dY ?_;refine An ?_;refine Qj ?_
  refine Dz Tryz.results37 (λ w hw=>?_)
  exact⟨x29,rfl,h29,hw.ret (List.Sublist.refl _) (aY.hX λ f hf=>by simpa using hf) (List.Sublist.refl _)⟩
theorem Z6{i m:Nat}(ht:bR t i m)(h:Th0 b t a.mm f cap B)(ok:a.Ok)(hm:a.mm.Small)(hA:∀f∈aK a.L,f∈A)(hB:∀x∈B,x∈A)(hs:SF w D [(b,fH a)] A [] (fM a) w) :
  Calls Tryz.prog 73 #[.iface 42 (.pointer (some ⟨b,0,none⟩)),.func (.func f) #[] ⟨cap⟩] w λ e w'=>∃x:Nat×Cd×Fr×AS,e=.returned (.pointer (some ⟨x.1,0,none⟩))/\(mS b (Ct.iO t a.mm) a B x.2/\eH (Ct.iO t a.mm).1=true)/\SF w D [(x.1,tO b x.2.1 0),(b,fH x.2.2.2)] [] x.2.2.1 (fM x.2.2.2) w':=by
 refine enter Tryz.func73 Tryz.ntmps73 rfl rfl hs ?_
 simp only[bX]
 refine cO ?_;refine J2 ?_;refine bJ ?_;refine bI (λ x8=>?_);refine yE ?_;refine aD (cM (V:=λ y:Cd×Fr×AS=>.agg ⟨y.1.cells⟩) (Fc:=λ y=>y.2.1) (hs:=[(b,fH a)]) (os:=fM a) (A0:=A) (hs':=λ y=>[(b,fH y.2.2)]) (os':=λ y=>fM y.2.2) (hc:=λ w1 hw=>j8 h ok hm hA hB hw)) (λ x11 h11=>?_);refine No ?_;refine cP (jA λ _=>lR (off:=1) (vs:=x11.1.cells) (cs:=tkC b x11.1 0 false) rf cQ rf (dM _) eD (Nat.le_of_ble_eq_true rfl) rf kO) (λ _=>?_);refine aH ?_;refine J2 ?_;refine J1 ?_
 refine aT Tryz.results73 (λ w hw=>?_)
 exact⟨(x8,x11),rfl,mS.of ht h11,hw.ret (List.Sublist.refl _) (aY.hX λ f hf=>by simpa using hf) (List.Sublist.refl _)⟩
end
end

end Go.Proofs.YtbajmaoegmbfgaaGreat
