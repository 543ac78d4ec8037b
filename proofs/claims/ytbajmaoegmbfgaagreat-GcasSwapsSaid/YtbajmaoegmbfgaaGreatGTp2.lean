/- The procedures with shared cells, as trees. -/
import Derived.Test.YtbajmaoegmbfgaaGreatGVw1
import Derived.Test.YtbajmaoegmbfgaaGreatGTr3
import Derived.Test.YtbajmaoegmbfgaaGreatGDfr
import Derived.Test.YtbajmaoegmbfgaaGreatGAr5

set_option linter.unusedSimpArgs false
set_option linter.unusedVariables false
namespace Go.Ct
section
def NI.c0(a:NI):Nv:=a.n.c a.xs a.ys
end
end Go.Ct
namespace Go.Proofs.YtbajmaoegmbfgaaGreat
section
open Go.RowKit Go.Ct
structure gO where
 root:Int
 ro:Bool
structure Cl where
 kind:Int
 t:gO
 a:Int
 b:Int
 n:Int
 index:Int
 hash:Int
 mask:Int
 key:ByteArray
 val:Int
 exp:Int
 Iq:Int
 only:Bool
def hJ(h:Nat)(level:Int):Int:=if level<0∨10<level then 0 else(sl h level.toNat:Int)
def yP(p:Int):Nv:=({Nd.zero with kind:=7,bI:=p}:Nd).c [] []
def sQ(g:Int):Nv:=({Nd.zero with kind:=2,gen:=g}:Nd).c [] []
def De(a b c:Int):Nv:=({Nd.zero with kind:=8,bI:=a,exp:=b,new:=c}:Nd).c [] []
def H7(h:Int)(k:ByteArray)(u:Int):Nv:=({Nd.zero with kind:=4,hash:=h,key:=k,val:=u}:Nd).c [] []
def M1:Nv:=({Nd.zero with kind:=3}:Nd).c [] []
def yu(v s:Int)(K:Int->Tr):Tr:=.node v λ n=>K (if s=1 then n.new else n.bI)
def vS(t:gO)(v s:Int)(K:Int->Tr):Tr:=yu v s λ w=>.kR t.root v w λ _=>K w
def Kr(t:gO)(K:Int->Tr):Tr:=.load t.root λ v=>.node v λ n=>if n.kind=2 then K v else .node v λ n=>.load n.status λ s =>
 if s=0 then .node v λ n=>.kR n.status 0 2 λ _=>.node v λ n=>.load n.status λ s=>vS t v s K else vS t v s K
def Pc(i m p:Int)(K:Int->Tr):Tr:=.node i λ ni=>.node p λ np=>.kR ni.main m np.bI λ _=>.node p λ np=>K np.bI
def jQ(i m:Int)(K:Int->Tr):Tr:=.node m λ nm=>.load nm.prev λ p=>if p=0 then K m else Pc i m p K
def qJ(i m p:Int)(c:Bool)(K:Int->Tr):Tr :=
 if c=true then .node m λ nm=>.kR nm.prev p 0 λ _=>jQ i m K
 else .node m λ nm=>.alloc (yP p) 0 λ f=>.kR nm.prev p f λ _=>jQ i m K
def sW(t:gO)(i m:Int)(K:Int->Tr):Tr:=.node m λ nm=>.load nm.prev λ p=>if p=0 then K m else .node p λ np =>
 if bZ np then(if t.ro=true then qJ i m p false K else Kr t λ r=>.node r λ nr=>.node i λ ni=>qJ i m p (nr.gen==ni.gen) K)
 else Pc i m p K
def oO(t:gO)(i:Int)(K:Int->Tr):Tr:=.node i λ ni=>.load ni.main λ m=>sW t i m K
def zY(t:gO)(v:Int)(K:Tr):Tr:=.node v λ n=>oO t n.bI λ r=>.node v λ n2=>.node v λ n3=>.kR n3.status 0 (if r=n2.exp then 1 else 2) λ _=>K
def yS(t:gO)(K:Int->Tr):Tr:=.load t.root λ v=>.node v λ n=>if n.kind=2 then K v else .node v λ n=>.load n.status λ s =>
 if s=0 then zY t v (.node v λ n=>.load n.status λ s=>vS t v s K) else vS t v s K
def jK(t:gO)(i bI n:Int)(K:Bool->Tr):Tr:=.node i λ ni=>.kR ni.main bI n λ b=>if b=true then sW t i n λ m=>K (m==n) else K false
def B5(t:gO)(bI exp new:Int)(K:Bool->Tr):Tr:=.alloc (De bI exp new) 0 λ d=>.kR t.root bI d λ b =>
 if b=true then zY t d (.node d λ nd=>.load nd.status λ s=>vS t d s λ _=>K (s==1)) else K false
noncomputable def Ge (c index r:Int) (K:Int->Tr):Tr:=.node c λ nc=>.alloc (Z2 nc index r) c K
noncomputable def Ml (t:gO) (i c index:Int) (K:Int->Tr):Tr:=.node c λ nc=>oO t ((lZ nc index).getD 0) λ m=>.node i λ ni=>.alloc (sQ ni.gen) m λ j =>
 Ge c index j λ r=>jK t i c r λ ok=>K (if ok=true then j else 0)
noncomputable def zO (t:gO) (parent child:Int) (h:Nat) (level:Int) (K:Bool->Tr):Tr:=oO t parent λ m=>.node m λ nm =>
 if lZ nm (hJ h level)=some child then oO t child λ mc=>.node mc λ nmc =>
  if nmc.kind=5 then .alloc (unV nmc) 0 λ s=>.node m λ nm2=>.alloc (wb (Z2 nm2 (hJ h level) s) level (unV nmc)) m λ r=>jK t parent m r K
  else K false
 else K false
def jI(f:Bool)(v:Int):Rs:=⟨0,f,v,⟨#[]⟩,0,0,0,false⟩
def rM(f:Bool)(v:Int):Rs:=⟨0,f,v,⟨#[]⟩,1,0,0,false⟩
noncomputable def Cs (t:gO) (h:Nat) (key:ByteArray) (K:Rs->Tr):Nat->Int->Int->Tr
 | 0,_,_=>.stuck
 | n+1,i,level=>oO t i λ mr=>.node mr λ m =>
  if m.kind=5 then(if m.key=key then K (jI true m.val) else K (jI false 0))
  else if m.kind=6 then K (jI (dO m.ys key).isSome ((dO m.ys key).getD 0))
  else match lZ m (hJ h level) with
   | none=>K (jI false 0)
   | some b=>.node b λ s=>if s.kind=4 then(if s.key=key then K (jI true s.val) else K (jI false 0)) else Cs t h key K n b (level+1)
def nS(c:Cl)(found:Bool)(v:Int):Bool:=if c.Iq=1 then !found else if c.Iq=2 then found else if c.Iq=3 then found&&v==c.exp else true
def A8:List NI->Int->(Int->Tr)->Tr
 | [],r,K=>K r
 | a::l,_,K=>.alloc a.c0 a.init λ r=>A8 l r K
def dP(at_:Int)(h0 h:Nat)(p:Pr)(k:ByteArray)(u gen:Int)(fi lvl:Nat):List NI:=dN at_ h0 h p k u gen fi (kP h0 h-lvl) (kP h0 h-(kP h0 h-lvl))
def V3(c:Cl)(b:Int)(h:Nat)(level:Nat)(gen:Int)(K:Int->Tr):Tr:=.node b λ nb =>
 .alloc ((dP b nb.hash.toNat h (nb.key,nb.val) c.key c.val gen 0 level).headD NI.no).c0 ((dP b nb.hash.toNat h (nb.key,nb.val) c.key c.val gen 0 level).headD NI.no).init λ f =>
 A8 (dP b nb.hash.toNat h (nb.key,nb.val) c.key c.val gen f.toNat level).tail f K
noncomputable def lV (c:Cl) (i m:Int) (h:Nat) (level:Nat) (gen:Int) (K:Rs->Int->Tr):Tr:=.node m λ n =>
 if n.kind=6 then
  (if nS c (dO n.ys c.key).isSome ((dO n.ys c.key).getD 0)=true then
   .alloc (grV n c.key c.val) m λ r=>jK c.t i m r λ ok=>K (rM (dO n.ys c.key).isSome ((dO n.ys c.key).getD 0)) (if ok=true then 1 else 0)
  else K (jI (dO n.ys c.key).isSome ((dO n.ys c.key).getD 0)) 1)
 else match lZ n (hJ h level) with
  | none=>if nS c false 0=true then .alloc (H7 h c.key c.val) 0 λ s=>.alloc (yp n (hJ h level) s) m λ r=>jK c.t i m r λ ok=>K (rM false 0) (if ok=true then 1 else 0) else K (jI false 0) 1
  | some b=>.node b λ nb=>if nb.kind=2 then K Rs.zero 2 else
   if nb.key=c.key then
    (if nS c true nb.val=true then .alloc (H7 h c.key c.val) 0 λ s=>Ge m (hJ h level) s λ r=>jK c.t i m r λ ok=>K (rM true nb.val) (if ok=true then 1 else 0)
    else K (jI true nb.val) 1)
   else
    (if nS c false 0=true then V3 c b h (level+1) gen λ d=>.alloc (sQ gen) d λ j=>Ge m (hJ h level) j λ r=>jK c.t i m r λ ok=>K (rM false 0) (if ok=true then 1 else 0)
    else K (jI false 0) 1)
noncomputable def Ez (c:Cl) (i m index gen:Int) (K:Int->Tr):Tr:=.node m λ nm=>.node ((lZ nm index).getD 0) λ nb=>if nb.gen=gen then K ((lZ nm index).getD 0) else Ml c.t i m index K
noncomputable def Dn (c:Cl) (h:Nat) (K:Rs->Tr) (again:Tr) (gen:Int):Nat->Int->Int->Nat->Tr
 | 0,_,_,_=>.stuck
 | n+1,i,parent,level=>oO c.t i λ m=>.node m λ nm =>
  if nm.kind=5 then zO c.t parent i h ((level:Int)-1) λ _=>again
  else lV c i m h level gen λ r what=>if what=1 then K r else if what=0 then again else
   Ez c i m (hJ h level) gen λ b=>if b=0 then again else Dn c h K again gen n b i (level+1)
noncomputable def Fv (c:Cl) (h:Nat) (K:Rs->Tr):Nat->Tr
 | 0=>.stuck
 | n+1=>yS c.t λ i=>.node i λ ni=>Dn c h K (Fv c h K n) ni.gen n i 0 0
noncomputable def kA (c:Cl) (i m:Int) (h:Nat) (level:Nat) (K:Rs->Int->Tr):Tr:=.node m λ n =>
 if n.kind=6 then
  (if(dO n.ys c.key).isSome=false∨(c.only=true/\(dO n.ys c.key).getD 0≠c.exp) then K (jI (dO n.ys c.key).isSome ((dO n.ys c.key).getD 0)) 1
  else .alloc (px n c.key) m λ r=>jK c.t i m r λ ok=>K (rM true ((dO n.ys c.key).getD 0)) (if ok=true then 1 else 0))
 else match lZ n (hJ h level) with
  | none=>K (jI false 0) 1
  | some b=>.node b λ s=>if s.kind=2 then K Rs.zero 2 else if s.key≠c.key then K (jI false 0) 1 else if c.only=true/\s.val≠c.exp then K (jI true s.val) 1
   else .node ((Ln (Nh n (hJ h level))).getD 0) λ so=>.alloc (wb (Nh n (hJ h level)) level so) m λ r=>jK c.t i m r λ ok=>K (rM true s.val) (if ok=true then 1 else 0)
noncomputable def vg (t:gO) (path:List Int) (h:Nat) (K:Tr):Nat->Tr
 | 0=>K
 | l+1=>oO t (path.getD (l+1) 0) λ m=>.node m λ nm=>if nm.kind=5 then zO t (path.getD l 0) (path.getD (l+1) 0) h (l:Int) λ _=>vg t path h K l else K
noncomputable def vC (c:Cl) (h:Nat) (K:Rs->Tr) (again:Tr) (gen:Int):Nat->Int->List Int->Nat->Tr
 | 0,_,_,_=>.stuck
 | n+1,i,path,level=>oO c.t i λ m=>.node m λ nm =>
  if nm.kind=5 then zO c.t (path.getD (level-1) 0) i h ((level:Int)-1) λ _=>again
  else kA c i m h level λ r what=>if what=1 then(if r.gE=1 then vg c.t path h (K r) (path.length-1) else K r) else if what=0 then again else
   Ez c i m (hJ h level) gen λ b=>if b=0 then again else vC c h K again gen n b (path++[b]) (level+1)
noncomputable def vL (c:Cl) (h:Nat) (K:Rs->Tr):Nat->Tr
 | 0=>.stuck
 | n+1=>yS c.t λ i=>.node i λ ni=>vC c h K (vL c h K n) ni.gen n i [i] 0
def Np(root:Int)(ro:Bool):Rs:=⟨0,true,0,⟨#[]⟩,0,0,root,ro⟩
def P1(m:Int)(K:Rs->Tr):Tr:=.gen λ g=>.alloc (sQ g) m λ r=>.cell r λ c=>K (Np c false)
def Kf(t:gO)(fz:Bool)(K:Rs->Tr):Nat->Tr
 | 0=>.stuck
 | n+1=>yS t λ r=>oO t r λ m=>.gen λ g=>.alloc (sQ g) m λ j=>B5 t r m j λ ok =>
  if ok=true then(if fz=true then .cell r λ c=>K (Np c true) else P1 m K) else Kf t fz K n
def sX(t:gO)(fz:Bool)(K:Rs->Tr)(n:Nat):Tr :=
 if t.ro=true then .load t.root λ r=>if fz=true then .cell r λ c=>K (Np c true) else oO t r λ m=>P1 m K
 else Kf t fz K n
def zQ(t:gO)(K:Rs->Tr):Nat->Tr
 | 0=>.stuck
 | n+1=>yS t λ r=>oO t r λ m=>.alloc M1 0 λ c=>.gen λ g=>.alloc (sQ g) c λ j=>B5 t r m j λ ok =>
  if ok=true then K (jI true 0) else zQ t K n
def qE(r:Int)(f:Bool):Rs:=⟨0,f,0,⟨#[]⟩,0,r,0,false⟩
def refuse(c:Cl):Int:=if c.kind=7∨c.kind=9 then(if c.key.size<=64 then 0 else 1) else if c.kind=8 then(if c.key.size<=64/\0<=c.Iq/\c.Iq<=3 then 0 else 1) else 0
noncomputable def kK (c:Cl) (h:Nat) (n:Nat):Tr :=
 if refuse c≠0 then .done {Rs.zero with err:=refuse c}
 else if c.kind=1 then oO c.t c.a λ r=>.done (qE r false)
 else if c.kind=2 then jK c.t c.a c.b c.n λ ok=>.done (qE 0 ok)
 else if c.kind=3 then yS c.t λ r=>.done (qE r false)
 else if c.kind=4 then B5 c.t c.a c.b c.n λ ok=>.done (qE 0 ok)
 else if c.kind=7 then yS c.t λ i=>Cs c.t h c.key .done n i 0
 else if c.kind=8 then Fv c h .done n
 else if c.kind=9 then vL c h .done n
 else if c.kind=10 then sX c.t false .done n
 else if c.kind=11 then sX c.t true .done n
 else zQ c.t .done n
end

/- Codes with a store: what they mean as trees. -/
end Go.Proofs.YtbajmaoegmbfgaaGreat
namespace Go.Ct
section
open Go Go.RowKit
structure AS where
 L:List aP
 cs:List Int
 gen:Int
 acc:Int
 pn:Option Addr
 cn:Nat
 pc:Option Addr
 cc:Nat
def AS.mm(a:AS):Mm:=⟨(cY a.L).map aP.c,a.cs,a.gen⟩
structure Ze(s:Mm):Prop where
 nd:∀v∈s.nodes,kX s.nodes.length s.cs.length v
 cs:∀v∈s.cs,v<=s.nodes.length
 two:2<=s.nodes.length
structure AS.Ok(a:AS):Prop where
 fit:Fits a.L
 mo:Ze a.mm
structure Mm.Le(s s1:Mm):Prop where
 nodes:∃N,s1.nodes=s.nodes++N
 cl:s.cs.length<=s1.cs.length
def Mm.Small(s:Mm):Prop:=s.nodes.length<=137438953472/\s.cs.length<=137438953472
structure AS.jO(a a':AS)(F:Fr):Prop where
 le:a.mm.Le a'.mm
 fam:∀f∈aM a'.L,f.2=[]∨f∈aM a.L∨f∈F
theorem Mm.Le.refl(s:Mm):s.Le s:=⟨⟨[],by simp⟩,Nat.le_refl _⟩
theorem Mm.Le.trans{s t u:Mm}(h:s.Le t)(h2:t.Le u):s.Le u:=by
 obtain⟨⟨N,e⟩,c⟩:=h
 obtain⟨⟨M,e2⟩,c2⟩:=h2
 exact⟨⟨N++M,by rw[e2,e,List.append_assoc]⟩,Nat.le_trans c c2⟩
theorem Mm.Le.len{s t:Mm}(h:s.Le t):s.nodes.length<=t.nodes.length:=by obtain⟨N,e⟩:=h.nodes;rw[e,List.length_append];omega
theorem Mm.Le.nd{s t:Mm}(h:s.Le t){r:Int}(hr:r<=s.nodes.length):cB t.nodes r=cB s.nodes r:=by obtain⟨N,e⟩:=h.nodes;rw[e];exact Ij hr
theorem AS.jO.refl(a:AS):a.jO a []:=⟨Mm.Le.refl _,λ f hf=>.inr (.inl hf)⟩
theorem AS.jO.more{a a':AS}{F F':Fr}(h:a.jO a' F)(hs:∀f∈F,f∈F'):a.jO a' F':=⟨h.le,λ f hf=>(h.fam f hf).imp_right λ h=>h.imp_right λ h=>hs f h⟩
theorem AS.jO.trans{a b c:AS}{F G:Fr}(h:a.jO b F)(h2:b.jO c G):a.jO c (G++F):=⟨h.le.trans h2.le,λ f hf=>by
 rcases h2.fam f hf with h1|h1|h1
 ·exact .inl h1
 ·rcases h.fam f h1 with h1|h1|h1
  ·exact .inl h1
  ·exact .inr (.inl h1)
  ·exact .inr (.inr (List.mem_append_right _ h1))
 ·exact .inr (.inr (List.mem_append_left _ h1))⟩
theorem Ze.at{s:Mm}(h:Ze s)(r:Int):kX s.nodes.length s.cs.length (cB s.nodes r):=by
 unfold cB
 split
 ·refine h.nd _ ?_
  rw[jJ,List.getElem?_eq_getElem (by omega)]
  exact List.getElem_mem _
 ·exact Nn _ _
theorem Ze.cell{s:Mm}(h:Ze s)(c:Int):bU s.cs c<=s.nodes.length:=by
 unfold bU
 split
 ·exact mI h.cs _
 ·exact bH _
theorem Ze.kR{s:Mm}(h:Ze s){c o n:Int}(hn:n<=s.nodes.length):Ze ⟨s.nodes,eT s.cs c o n,s.gen⟩:=by
 refine⟨λ v hv=>by simp only[iF];exact h.nd v hv,λ v hv=>?_,h.two⟩
 simp only[eT] at hv
 split at hv
 ·rcases List.mem_or_eq_of_mem_set hv with hv|rfl
  ·exact h.cs v hv
  ·exact hn
 ·exact h.cs v hv
def iZ:Tr->Mm->Tr×Mm
 | .alloc n i k,s=>iZ (k ((s.nodes.length+1:Nat):Int)) (s.push n i)
 | .cell i k,s=>iZ (k ((s.cs.length+1:Nat):Int)) ⟨s.nodes,s.cs++[i],s.gen⟩
 | .gen k,s=>iZ (k (s.gen+1)) ⟨s.nodes,s.cs,s.gen+1⟩
 | .node r k,s=>iZ (k (cB s.nodes r)) s
 | t,s=>(t,s)
def nxT:Tr->Mm->Tr×Mm
 | .load c k,s=>(k (bU s.cs c),s)
 | .kR c o n k,s=>(k (l8 s.cs c o),⟨s.nodes,eT s.cs c o n,s.gen⟩)
 | t,s=>(t,s)
def Bj(p:Tr×Mm):Tr×Mm:=iZ (nxT p.1 p.2).1 (nxT p.1 p.2).2
def Tr.live:Tr->Bool
 | .done _=>false
 | _=>true
def uT(p:Tr×Mm):Nat->Tr×Mm
 | 0=>p
 | k+1=>Bj (uT p k)
theorem aAq{t t':Tr}{s s':Mm}(h:Lp t s t' s'):nxT t s=(t',s')/\∀u,iZ t u=(t,u):=by
 cases h with
 | load c k s=>exact⟨rfl,λ _=>rfl⟩
 | kR c o n k s b hb=>rw[Vk hb];exact⟨rfl,λ _=>rfl⟩
theorem jf{t t':Tr}{s s':Mm}(h:Sp t s t' s'):iZ t s=iZ t' s':=by
 cases h<;>rfl
theorem ls{j:Nat}{t t':Tr}{s s':Mm}(h:Rc j t s t' s'):(j=0->iZ t s=iZ t' s')/\(j=1->Bj (iZ t s)=iZ t' s'):=by
 induction h with
 | refl t s=>exact⟨λ _=>rfl,λ h=>nomatch h⟩
 | iZ _ hs ih=>exact⟨λ e=>(ih.1 e).trans (jf hs),λ e=>(ih.2 e).trans (jf hs)⟩
 | loud _ hs ih =>
  refine⟨(λ e=>nomatch e),λ e=>?_⟩
  obtain⟨h1,h2⟩:=aAq hs
  rw[ih.1 (by omega),h2]
  unfold Bj
  rw[h1]
end
end Go.Ct
namespace Go.Proofs.YtbajmaoegmbfgaaGreat
section
open Go Go.RowKit Go.Ct
theorem Gl{t:Tr}(h:eL t=true)(s:Mm):iZ t s=(t,s):=by
 cases t<;>first|rfl|cases h
theorem zb{t t':Tr}{s s':Mm}(h:Rc 0 t s t' s')(ha:eL t'=true):iZ t s=(t',s'):=by rw[(ls h).1 rfl,Gl ha]
theorem xd{t t':Tr}{s s':Mm}(h:Rc 1 t s t' s')(h0:eL t=true)(ha:eL t'=true):Bj (t,s)=(t',s'):=by rw[<- Gl h0 s,(ls h).2 rfl,Gl ha]
abbrev fT(a:AS):Obj:=aO a.L a.cs a.gen a.acc a.pn a.cn a.pc a.cc
abbrev gD(a:AS):List Ow:=mW a.L a.cs a.pn a.cn a.pc a.cc
def Hh(b:Nat)(R:Cd->Mm->Fr->Prop)(a:AS)(B:Fr)(D:List Nat)(w:World):Ending->World->Prop:=λ e w'=>∃y:Cd×Fr×AS,e=.returned (.agg ⟨y.1.cells⟩)/\(R y.1 y.2.2.mm (y.2.1++B)/\y.2.2.Ok/\a.jO y.2.2 y.2.1)/\SF w D [(b,fT y.2.2)] [] y.2.1 (gD y.2.2) w'
def Aw(b:Nat)(f:FuncId)(cap:List Value)(arg:List Value)(B:Fr)(s:Mm)(R:Cd->Mm->Fr->Prop):Prop :=
 ∀(a:AS) (D:List Nat) (A:Fr) (w:World),a.mm=s->a.Ok->s.Small->(∀f∈aM a.L,f∈A)->(∀f∈B,f∈A)->SF w D [(b,fT a)] A [] (gD a) w->Calls Tryz.prog f ⟨arg++cap⟩ w (Hh b R a B D w)
def lP(b:Nat):Tr->Mm->Cd->Mm->Fr->Prop
 | .done r,s,c,s2,_=>s2=s/\c=E3 r
 | .load x k,s,c,s2,B=>s2=s/\x<=9223372036854775807/\∃f cap,c=vQ x f cap/\plain Tryz.prog f=true/\∀(v:Int) (s1:Mm),s.Le s1->v<=s1.nodes.length->Aw b f cap [.int .i64 v] B s1 λ c' s' B'=>lP b (k v) s1 c' s' B'
 | .kR x o n k,s,c,s2,B=>s2=s/\x<=9223372036854775807/\n<=s.nodes.length/\∃f cap,c=yJ x o n f cap/\plain Tryz.prog f=true/\∀(v:Bool) (s1:Mm),s.Le s1->Aw b f cap [.bool v] B s1 λ c' s' B'=>lP b (k v) s1 c' s' B'
 | .alloc n i k,s,c,s2,B=>lP b (k ((s.nodes.length+1:Nat):Int)) (s.push n i) c s2 B
 | .cell i k,s,c,s2,B=>lP b (k ((s.cs.length+1:Nat):Int)) ⟨s.nodes,s.cs++[i],s.gen⟩ c s2 B
 | .gen k,s,c,s2,B=>lP b (k (s.gen+1)) ⟨s.nodes,s.cs,s.gen+1⟩ c s2 B
 | .node r k,s,c,s2,B=>r<=s.nodes.length/\lP b (k (cB s.nodes r)) s c s2 B
 | .stuck,_,_,_,_=>True
def Iz(b:Nat)(K:Int->Tr)(s:Mm)(f:FuncId)(cap:List Value)(B:Fr):Prop:=plain Tryz.prog f=true/\∀(v:Int) (s1:Mm),s.Le s1->v<=s1.nodes.length->Aw b f cap [.int .i64 v] B s1 λ c' s' B'=>lP b (K v) s1 c' s' B'
def Yc(b:Nat)(K:Bool->Tr)(s:Mm)(f:FuncId)(cap:List Value)(B:Fr):Prop:=plain Tryz.prog f=true/\∀(v:Bool) (s1:Mm),s.Le s1->Aw b f cap [.bool v] B s1 λ c' s' B'=>lP b (K v) s1 c' s' B'
def Th0(b:Nat)(t:Tr)(s:Mm)(f:FuncId)(cap:List Value)(B:Fr):Prop:=plain Tryz.prog f=true/\∀s1:Mm,s.Le s1->Aw b f cap [] B s1 λ c' s' B'=>lP b t s1 c' s' B'
section
variable{b:Nat}{f:FuncId}{cap arg:List Value}{B B2:Fr}{s s1 s2:Mm}{t:Tr}{c:Cd}
theorem Aw.more{R R2:Cd->Mm->Fr->Prop}(h:Aw b f cap arg B s R)(hb:∀x∈B,x∈B2)(hR:∀c m C C2,(∀x∈C,x∈C2)->R c m C->R2 c m C2):Aw b f cap arg B2 s R2:=λ a D A w e1 ok hs h1 h2 hw =>
 (h a D A w e1 ok hs h1 (λ x hx=>h2 x (hb x hx)) hw).mono λ e w' ⟨y,he,⟨hr,h3⟩,hs⟩=>⟨y,he,⟨hR _ _ _ _ (λ x hx=>by
  rcases List.mem_append.1 hx with h1|h1
  ·exact List.mem_append_left _ h1
  ·exact List.mem_append_right _ (hb x h1)) hr,h3⟩,hs⟩
theorem lP.more:∀{t:Tr} {s s2:Mm} {c:Cd} {B B2:Fr},lP b t s c s2 B->(∀x∈B,x∈B2)->lP b t s c s2 B2
 | .done _,_,_,_,_,_,h,_=>h
 | .load _ k,_,_,_,_,_,⟨h0,h1,f,cap,h2,h3,h4⟩,hb=>⟨h0,h1,f,cap,h2,h3,λ v s1 l hv=>(h4 v s1 l hv).more hb λ _ _ _ _ hC h=>lP.more (t:=k v) h hC⟩
 | .kR _ _ _ k,_,_,_,_,_,⟨h0,h1,hn,f,cap,h2,h3,h4⟩,hb=>⟨h0,h1,hn,f,cap,h2,h3,λ v s1 l=>(h4 v s1 l).more hb λ _ _ _ _ hC h=>lP.more (t:=k v) h hC⟩
 | .alloc n i k,s,_,_,_,_,h,hb=>lP.more (t:=k ((s.nodes.length+1:Nat):Int)) h hb
 | .cell i k,s,_,_,_,_,h,hb=>lP.more (t:=k ((s.cs.length+1:Nat):Int)) h hb
 | .gen k,s,_,_,_,_,h,hb=>lP.more (t:=k (s.gen+1)) h hb
 | .node r k,s,_,_,_,_,h,hb=>⟨h.1,lP.more (t:=k (cB s.nodes r)) h.2 hb⟩
 | .stuck,_,_,_,_,_,_,_=>trivial
theorem Iz.more{K:Int->Tr}(h:Iz b K s f cap B)(hb:∀x∈B,x∈B2):Iz b K s f cap B2:=⟨h.1,λ v s1 l hv=>(h.2 v s1 l hv).more hb λ _ _ _ _ hC h=>lP.more h hC⟩
theorem Yc.more{K:Bool->Tr}(h:Yc b K s f cap B)(hb:∀x∈B,x∈B2):Yc b K s f cap B2:=⟨h.1,λ v s1 l=>(h.2 v s1 l).more hb λ _ _ _ _ hC h=>lP.more h hC⟩
theorem Iz.le{K:Int->Tr}(h:Iz b K s f cap B)(l:s.Le s1):Iz b K s1 f cap B:=⟨h.1,λ v s2 l2 hv=>h.2 v s2 (l.trans l2) hv⟩
theorem Yc.le{K:Bool->Tr}(h:Yc b K s f cap B)(l:s.Le s1):Yc b K s1 f cap B:=⟨h.1,λ v s2 l2=>h.2 v s2 (l.trans l2)⟩
theorem lP.kind(h:lP b t s c s2 B)(ha:eL t=true):(c.a.k=0↔t.live=false)/\(∀r,t=.done r->c.r=r)/\(∀x,t.acc=some x->c.a=x):=by
 cases t with
 | done r=>rw[h.2];exact⟨⟨λ _=>rfl,λ _=>rfl⟩,(λ r e=>by cases e;rfl),(λ x e=>nomatch e)⟩
 | load x k =>
  obtain⟨_,_,f,cap,e,_⟩:=h
  rw[e]
  exact⟨⟨λ h=>absurd h (show(1:Int)≠0 by decide),(λ h=>nomatch h)⟩,(λ r e=>nomatch e),λ x e=>by cases e;rfl⟩
 | kR x o n k =>
  obtain⟨_,_,_,f,cap,e,_⟩:=h
  rw[e]
  exact⟨⟨λ h=>absurd h (show(2:Int)≠0 by decide),(λ h=>nomatch h)⟩,(λ r e=>nomatch e),λ x e=>by cases e;rfl⟩
 | alloc n i k=>cases ha
 | cell i k=>cases ha
 | gen k=>cases ha
 | node r k=>cases ha
 | stuck=>cases ha
theorem lP.le(h:lP b t s c s2 B)(ha:eL t=true)(l:s.Le s1):lP b t s1 c s1 B:=by
 cases t with
 | done r=>exact⟨rfl,h.2⟩
 | load x k =>
  obtain⟨_,h1,f,cap,e,hp,hk⟩:=h
  exact⟨rfl,h1,f,cap,e,hp,λ v s3 l3 hv=>hk v s3 (l.trans l3) hv⟩
 | kR x o n k =>
  obtain⟨_,h1,hn,f,cap,e,hp,hk⟩:=h
  exact⟨rfl,h1,by have:=l.len;omega,f,cap,e,hp,λ v s3 l3=>hk v s3 (l.trans l3)⟩
 | alloc n i k=>cases ha
 | cell i k=>cases ha
 | gen k=>cases ha
 | node r k=>cases ha
 | stuck=>cases ha
theorem lP.iZ:∀{t:Tr} {s s2:Mm} {c:Cd} {n m:Nat},bR t n m->lP b t s c s2 B->(iZ t s).2=s2/\eL (iZ t s).1=true/\lP b (iZ t s).1 s2 c s2 B
 | .done _,_,_,_,_,_,_,h=>by obtain⟨rfl,h2⟩:=h;exact⟨rfl,rfl,rfl,h2⟩
 | .load _ k,_,_,_,_,_,_,h=>by obtain⟨rfl,h2⟩:=h;exact⟨rfl,rfl,rfl,h2⟩
 | .kR _ _ _ k,_,_,_,_,_,_,h=>by obtain⟨rfl,h2⟩:=h;exact⟨rfl,rfl,rfl,h2⟩
 | .alloc n i k,s,_,_,_,0,ht,h=>ht.elim
 | .alloc n i k,s,_,_,_,_+1,ht,h=>lP.iZ (t:=k ((s.nodes.length+1:Nat):Int)) (ht _) h
 | .cell i k,s,_,_,_,0,ht,h=>ht.elim
 | .cell i k,s,_,_,_,_+1,ht,h=>lP.iZ (t:=k ((s.cs.length+1:Nat):Int)) (ht _) h
 | .gen k,s,_,_,_,0,ht,h=>ht.elim
 | .gen k,s,_,_,_,_+1,ht,h=>lP.iZ (t:=k (s.gen+1)) (ht _) h
 | .node r k,s,_,_,_,_,ht,h=>lP.iZ (t:=k (cB s.nodes r)) (ht _) h.2
 | .stuck,_,_,_,_,_,ht,_=>ht.elim
end
section
variable{S:List (Nat×Value)}{w0 w:World}{M:List Nat}{H:List (Nat×Obj)}{A F:Fr}{O:List Ow}{ty:TypeId}{pos:String}{af:Array Edge}{gd:Option (Nat×Bool)}{X:Type}{V:X->Value}
theorem cMf{φ:X->Prop}{hs H':List (Nat×Obj)}{os O':List Ow}{hs' H1:X->List (Nat×Obj)}{os' O1:X->List Ow}{Fc F1:X->Fr}{A0:Fr}{is js:List Nat}{f:FuncId}{cap:List Value}{xs:List Operand}{at_:Array TypeId}{vs:List Value}{dst:Option Nat}{x:Operand}
  (hx:ev S x=.func (.func f) #[] ⟨cap⟩:=by exact rfl) (ha:qR S xs=vs:=by(repeat (first|exact dE _|(apply cJ;focus ((conv=>{lhs;whnf});try exact rfl))));first|done|fail) (hp:plain Tryz.prog f=true)
  (hc:∀w,SF w (Ks hs os) hs A0 [] os w->Calls Tryz.prog f ⟨vs++cap⟩ w λ e w'=>∃x,e=.returned (V x)/\φ x/\SF w (Ks hs os) (hs' x) [] (Fc x) (os' x) w')
  (hH:lS H is hs H':=by(repeat (first|exact lS.nil|(apply lS.cons;(focus ((repeat (first|exact yH.head|apply yH.tail));done));simp only[qF])));first|done|fail)
  (hO:lS O js os O':=by(repeat (first|exact lS.nil|(apply lS.cons;(focus ((repeat (first|exact yH.head|apply yH.tail));done));simp only[qF])));first|done|fail)
  (hA:aY A F O' A0:=by exact aY.of (λ _ h=>Or.inr (Or.inl h)))
  (hl1:∀x,is.length=(hs' x).length:=by intro x;exact rfl) (hl2:∀x,js.length=(os' x).length:=by intro x;exact rfl)
  (hH1:∀x,iO is (hs' x) H'=H1 x:=by intro x;first|(simp only[iO,qT];exact rfl)|exact rfl) (hF1:∀x,Fc x++F=F1 x:=by intro x;first|(simp only[List.nil_append,List.cons_append];exact rfl)|exact rfl) (hO1:∀x,iO js (os' x) O'=O1 x:=by intro x;simp only[iO,qT,mW];exact rfl) :
  bE Tryz.prog S (SF w0 M H A F O) ⟨dst,.call {callee:=.value x,args:=⟨xs⟩,argTypes:=at_},ty,pos,af,gd⟩ X V (λ x w=>φ x/\SF w0 M (H1 x) A (F1 x) (O1 x) w) :=
 hY (qa hx hp ha) λ w hw=>(hc w (hw.pE hH hO hA)).mono λ _ _ ⟨x,he,hx,hs⟩=>⟨x,he,hx,by
  have:=hw.xC (hs':=hs' x) (Hc:=[]) (os':=os' x) (Oc:=[]) hH hO (by simpa using hs) (hl1 x) (hl2 x)
  rw[<- hH1 x,<- hF1 x,<- hO1 x]
  simpa using this⟩
end
end

/- Tasks: Done, Next, Result, Steps. -/
end Go.Proofs.YtbajmaoegmbfgaaGreat
namespace Go.Ct
section
open Go Go.RowKit
theorem SF.same{w w':World}{b:Nat}{o:Obj}(h:SF w [b] [(b,o)] [] [] [] w')(hb:w.heap[b]?=some o):St w [] [] w' :=
 ⟨h.st.os,h.st.tape,h.st.output,h.st.size,λ k hk _=>by
  by_cases e:k=b
  ·subst e;rw[h.st.has (k,o) (List.mem_singleton.2 rfl),hb]
  ·exact h.st.jU k hk (by simpa using e),λ _ h=>(List.not_mem_nil h).elim,λ _ h=>(List.not_mem_nil h).elim,List.nodup_nil⟩
theorem SF.V9{w:World}{b:Nat}{o:Obj}(hb:w.heap[b]?=some o):SF w [b] [(b,o)] [] [] [] w :=
 ⟨⟨rfl,rfl,rfl,Nat.le_refl _,λ _ _ _=>rfl,λ p hp=>by rw[List.mem_singleton.1 hp];exact hb,λ p hp=>by rw[List.mem_singleton.1 hp];exact .inl (List.mem_singleton.2 rfl),by simp⟩,λ _ h=>(List.not_mem_nil h).elim,λ _ h=>(List.not_mem_nil h).elim,λ _ h=>(List.not_mem_nil h).elim,by simp[Ks]⟩
end
end Go.Ct
namespace Go.Proofs.YtbajmaoegmbfgaaGreat
section
open Go Go.RowKit Go.Ct
abbrev tkC(b:Nat)(c:Cd)(n:Nat)(z:Bool):List Value:=[.iface 42 (.pointer (some ⟨b,0,none⟩)),.int .i64 c.a.k,.int .i64 c.a.c,.int .i64 c.a.o,.int .i64 c.a.n,fnV c.f,fnV c.g,.int .i64 c.r.err,.bool c.r.found,.int .u64 c.r.val,.string c.r.key,.int .i64 c.r.gE,.int .i64 c.r.ref,.int .i64 c.r.root,.bool c.r.ro,.int .i64 ((n:Nat):Int),.bool z]
abbrev tO(b:Nat)(c:Cd)(n:Nat):Obj:=.cells ⟨tkC b c n false⟩ 141 (0,0)
section
variable{D:List Nat}{A B:Fr}{L:List aP}{cs:List Int}{gen acc:Int}{pn pc:Option Addr}{cn cc b bt n:Nat}{w:World}{c:Cd}
theorem vF(h:w.heap[bt]?=some (tO b c n)):Calls Tryz.prog 33 #[.pointer (some ⟨bt,0,none⟩)] w λ e w'=>e=.returned (.bool (c.a.k==0))/\St w [] [] w':=by
 refine enter Tryz.func33 Tryz.ntmps33 rfl rfl (SF.V9 h) ?_
 simp only[bX]
 refine cO ?_;refine Hj ?_;refine aE ?_;refine J3 ?_;refine Rg ?_
 refine aS Tryz.results33 (λ w hw=>?_)
 exact⟨rfl,hw.aU.same h⟩
theorem Jk(h:w.heap[bt]?=some (tO b c n)):Calls Tryz.prog 63 #[.pointer (some ⟨bt,0,none⟩)] w λ e w'=>e=.returned (.int .i64 ((n:Nat):Int))/\St w [] [] w':=by
 refine enter Tryz.func63 Tryz.ntmps63 rfl rfl (SF.V9 h) ?_
 simp only[bX]
 refine cO ?_;refine lR ?_;refine J1 ?_
 refine aS Tryz.results63 (λ w hw=>?_)
 exact⟨rfl,hw.aU.same h⟩
theorem li (h:w.heap[bt]?=some (tO b c n)):Calls Tryz.prog 133 #[.pointer (some ⟨bt,0,none⟩)] w fun e w'=>e=.returned (.tuple #[.agg ⟨(if c.a.k=0 then Ac.zero else c.a).cells⟩,.bool (c.a.k != 0)])∧St w [] [] w':=by
 refine enter Tryz.func133 Tryz.ntmps133 rfl rfl (SF.V9 h) ?_
 simp only [bX]
 refine J0 ?_;refine aJ (fun x2=>?_);refine hZ ?_;refine J2 ?_;refine aT (cV (hc:=fun w1 hw=>vF (hw.st.at cQ))) (fun x5=>?_);refine aH ?_
 refine bB (fun c5=>?_) (fun c5=>?_)
 ·refine J0 ?_;refine bJ ?_;refine xA ?_
  refine bC Tryz.results133 (fun w hw=>?_)
  refine⟨?_,hw.aU.same h⟩
  rw [if_pos (by simpa using c5),show (c.a.k != 0)=false by simpa using c5]
  rfl
 ·refine bA ?_;refine Hj ?_;refine aE ?_;refine aC (aQ (k:=4) (vs:=c.a.cells) rf cQ eA rfl rfl) rfl ?_;refine xA ?_
  refine bC Tryz.results133 (fun w hw=>?_)
  refine⟨?_,hw.aU.same h⟩
  rw [if_neg (by simpa using c5),show (c.a.k != 0)=true by simpa using c5]
  rfl
theorem R4(h:w.heap[bt]?=some (tO b c n)):Calls Tryz.prog 34 #[.pointer (some ⟨bt,0,none⟩)] w λ e w'=>e=.returned (.agg ⟨(if c.a.k=0 then c.r else Rs.zero).cells⟩)/\St w [] [] w':=by
 refine enter Tryz.func34 Tryz.ntmps34 rfl rfl (SF.V9 h) ?_
 simp only[bX]
 refine J0 ?_;refine aJ (λ x2=>?_);refine aH ?_;refine jV ?_;refine aT (cV (hc:=λ w1 hw=>vF (hw.st.at cQ))) (λ x4=>?_);refine oE ?_
 refine bB (λ c5=>?_) (λ c5=>?_)
 ·refine J0 ?_;refine wG ?_
  refine bC Tryz.results34 (λ w hw=>?_)
  refine⟨?_,hw.aU.same h⟩
  rw[if_neg (by simpa using c5)]
  rfl
 ·refine bA ?_;refine Hj ?_;refine aE ?_;refine aC (aQ (k:=8) (vs:=c.r.cells) rf cQ eA rfl rfl) rfl ?_;refine J5 ?_
  refine bC Tryz.results34 (λ w hw=>?_)
  refine⟨?_,hw.aU.same h⟩
  rw[if_pos (by simpa using c5)]
  rfl
end
end

/- Tasks on an arena: how they begin, how they go on. -/
end Go.Proofs.YtbajmaoegmbfgaaGreat
namespace Go.Ct
section
open Go Go.RowKit
abbrev AS.Xr(a:AS)(cs:List Int):AS:={a with cs:=cs,acc:=up a.acc}
theorem AS.Ok.Xr{a:AS}(ok:a.Ok){x o n:Int}(hn:n<=a.mm.nodes.length):(a.Xr (eT a.cs x o n)).Ok:=⟨ok.fit,ok.mo.kR hn⟩
end
end Go.Ct
namespace Go.Proofs.YtbajmaoegmbfgaaGreat
section
open Go Go.RowKit Go.Ct
section
variable{D:List Nat}{A B:Fr}{a:AS}{b bt n:Nat}{w:World}{c:Cd}{t:Tr}{f:FuncId}{cap:List Value}
theorem ji(h:Th0 b t a.mm f cap B)(ok:a.Ok)(hm:a.mm.Small)(hA:∀f∈aM a.L,f∈A)(hB:∀x∈B,x∈A)(hs:SF w D [(b,fT a)] A [] (gD a) w) :
  Calls Tryz.prog 118 #[.func (.func f) #[] ⟨cap⟩] w (Hh b (λ c' s' B'=>lP b t a.mm c' s' B') a B D w):=by
 obtain⟨hp,h⟩:=h
 refine Tj Tryz.func118 Tryz.ntmps118 rfl rfl hs ?_
 simp only[bX]
 refine fY ?_;refine dK ?_;refine uY (λ x2=>?_);refine iN ?_;refine fY ?_;refine dK ?_;(refine gS (dS (by(repeat (first|exact dE _|(apply cJ;focus ((conv=>{lhs;whnf});try exact rfl))));done)) rfl ?_);refine F5 rfl ?_;refine iN ?_;refine fY ?_;refine fY ?_;refine dK ?_;refine oQ ?_;refine gS (K0 rf rf (aAB _ _ _)) rfl ?_;refine iN ?_
 refine Jl (λ c5=>?_) (λ c5=>?_)
 ·exact nv c5
 ·revert c5;(skip);intro c5
  refine Ek ?_;refine fY ?_;refine dK ?_;refine oQ ?_;refine Ag (cMf (V:=λ y:Cd×Fr×AS=>.agg ⟨y.1.cells⟩) (hs:=[(b,fT a)]) (os:=gD a) (hs':=λ y=>[(b,fT y.2.2)]) (os':=λ y=>gD y.2.2) (Fc:=λ y=>y.2.1) (A0:=A) (f:=f) (cap:=cap) (vs:=[]) (hp:=hp) (hc:=λ w1 hw=>h a.mm (Mm.Le.refl _) a _ A w1 rfl ok hm hA hB hw)) (λ x8 h8=>?_);refine K7 (jF λ _=>bP rf cQ rf (eD _) eA rf lJ) (λ _=>?_);refine iN ?_
  refine Fo (Sf _) (by kernel_rfl) Tryz.results118 (.cell rf cQ eA .nil) (λ w hw=>?_)
  exact⟨x8,rfl,h8,hw.ret (by repeat (first|exact List.Sublist.refl _|apply List.Sublist.cons)) (aX.iD λ f hf=>by simpa using hf) (List.Sublist.refl _)⟩
theorem Ex{x:Int}{k:Int->Tr}(hr:lP b (.load x k) a.mm c a.mm B)(ok:a.Ok)(hm:a.mm.Small)(hA:∀f∈aM a.L,f∈A)(hB:∀x∈B,x∈A)(hs:SF w D [(b,fT a)] A [] (gD a) w) :
  Calls Tryz.prog 86 #[.iface 42 (.pointer (some ⟨b,0,none⟩)),.agg ⟨c.cells⟩] w (Hh b (λ c' s' B'=>lP b (k (bU a.cs x)) a.mm c' s' B') a B D w):=by
 obtain⟨_,hx,f,cap,rfl,hp,hk⟩:=hr
 have hl:a.cs.length<=274877906944:=by have:=hm.2;show a.mm.cs.length<=_;omega
 have hv:bU a.cs x<=a.mm.nodes.length:=ok.mo.cell x
 refine Tj Tryz.func86 Tryz.ntmps86 rfl rfl hs ?_
 simp only[bX]
 refine fY ?_;refine dK ?_;refine ab (λ x3=>?_);refine uY (λ x4=>?_);refine iN ?_;refine fY ?_;refine dK ?_;(refine gS (dS (by(repeat (first|exact dE _|(apply cJ;focus ((conv=>{lhs;whnf});try exact rfl))));done)) rfl ?_);refine F5 rfl ?_;refine iN ?_;refine fY ?_;refine dK ?_;refine eP ?_;refine gS (aQ (k:=4) (vs:=(vQ x f cap).a.cells) rf cQ eA rfl rfl) rfl ?_;refine uY (λ x5=>?_);refine Pk (λ _=>?_);refine iN ?_;refine fY ?_;refine fY ?_;refine dK ?_;refine eP ?_;refine nJ ?_;refine ad ?_;refine iN ?_
 refine Jl (λ c13=>?_) (λ c13=>?_)
 ·revert c13;(refine cv1 ?_);intro c13
  refine fY ?_;refine dK ?_;refine zP (λ _=>?_);refine iN ?_;refine fY ?_;refine fY ?_;refine dK ?_;refine oQ ?_;refine gS (Vp rf rf (Cw _)) rfl ?_;refine iN ?_
  refine Jl (λ c15=>?_) (λ c15=>?_)
  ·revert c15;(skip);intro c15
   refine dK ?_;refine oQ ?_;refine eP ?_;refine nJ ?_;refine Ag (cMI (V:=λ _:Unit=>.int .i64 (bU a.cs x)) (os':=λ _=>gD (a.Xr a.cs)) (hs':=λ _=>[(b,fT (a.Xr a.cs))]) (Fc:=λ _=>[]) (A0:=A) (hm:=λ w=>Zl _ _ w) (hc:=λ w hw=>Vn hw x hx hl)) (λ x19 h19=>?_);refine zP (λ _=>?_);refine iN ?_;refine fY ?_;refine fY ?_;refine dK ?_;refine eP ?_;refine nJ ?_;refine gS (K0 rf rf (aA4 _ _ _)) rfl ?_;refine iN ?_
   refine Jl (λ c22=>?_) (λ c22=>?_)
   ·exact nv c22
   ·revert c22;(skip);intro c22
    refine Ek ?_;refine fY ?_;refine dK ?_;refine eP ?_;refine nJ ?_;refine oQ ?_;refine Ag (cMf (V:=λ y:Cd×Fr×AS=>.agg ⟨y.1.cells⟩) (hs:=[(b,fT (a.Xr a.cs))]) (os:=gD (a.Xr a.cs)) (hs':=λ y=>[(b,fT y.2.2)]) (os':=λ y=>gD y.2.2) (Fc:=λ y=>y.2.1) (A0:=A) (f:=f) (cap:=cap) (vs:=[.int .i64 (bU a.cs x)]) (hp:=hp) (hc:=λ w1 hw=>hk (bU a.cs x) a.mm (Mm.Le.refl _) hv (a.Xr a.cs) _ A w1 rfl ⟨ok.fit,ok.mo⟩ hm hA hB hw)) (λ x27 h27=>?_);refine K7 (jF λ _=>bP rf cQ rf (eD _) eA rf lJ) (λ _=>?_);refine iN ?_
    refine Fo (yK _) (by kernel_rfl) Tryz.results86 (.cell rf cQ eA .nil) (λ w hw=>?_)
    exact⟨x27,rfl,⟨h27.1,h27.2.1,⟨h27.2.2.le,h27.2.2.fam⟩⟩,hw.ret (by repeat (first|exact List.Sublist.refl _|apply List.Sublist.cons)) (aX.iD λ f hf=>by simpa using hf) (List.Sublist.refl _)⟩
  ·exact nv c15
 ·revert c13;(refine cv2 ?_);intro c13
  exact(c13 rfl).elim
theorem Iu{x o n:Int}{k:Bool->Tr}(hr:lP b (.kR x o n k) a.mm c a.mm B)(ok:a.Ok)(hm:a.mm.Small)(hA:∀f∈aM a.L,f∈A)(hB:∀x∈B,x∈A)(hs:SF w D [(b,fT a)] A [] (gD a) w) :
  Calls Tryz.prog 86 #[.iface 42 (.pointer (some ⟨b,0,none⟩)),.agg ⟨c.cells⟩] w (Hh b (λ c' s' B'=>lP b (k (l8 a.cs x o)) ⟨a.mm.nodes,eT a.cs x o n,a.gen⟩ c' s' B') a B D w):=by
 obtain⟨_,hx,hn,f,cap,rfl,hp,hk⟩:=hr
 have hl:a.cs.length<=274877906944:=by have:=hm.2;show a.mm.cs.length<=_;omega
 have hle:a.mm.Le ⟨a.mm.nodes,eT a.cs x o n,a.gen⟩:=⟨⟨[],by simp⟩,by show a.cs.length<=(eT a.cs x o n).length;rw[iF];exact Nat.le_refl _⟩
 have hm2:Mm.Small ⟨a.mm.nodes,eT a.cs x o n,a.gen⟩:=⟨hm.1,by show(eT a.cs x o n).length<=_;rw[iF];exact hm.2⟩
 refine Tj Tryz.func86 Tryz.ntmps86 rfl rfl hs ?_
 simp only[bX]
 refine fY ?_;refine dK ?_;refine ab (λ x3=>?_);refine uY (λ x4=>?_);refine iN ?_;refine fY ?_;refine dK ?_;(refine gS (dS (by(repeat (first|exact dE _|(apply cJ;focus ((conv=>{lhs;whnf});try exact rfl))));done)) rfl ?_);refine F5 rfl ?_;refine iN ?_;refine fY ?_;refine dK ?_;refine eP ?_;refine gS (aQ (k:=4) (vs:=(yJ x o n f cap).a.cells) rf cQ eA rfl rfl) rfl ?_;refine uY (λ x5=>?_);refine Pk (λ _=>?_);refine iN ?_;refine fY ?_;refine fY ?_;refine dK ?_;refine eP ?_;refine nJ ?_;refine ad ?_;refine iN ?_
 refine Jl (λ c13=>?_) (λ c13=>?_)
 ·revert c13;(refine cv1 ?_);intro c13
  exact absurd (show(2:Int)=1 from c13) (by decide)
 ·revert c13;(refine cv2 ?_);intro c13
  refine Ek ?_;refine fY ?_;refine dK ?_;refine oQ ?_;refine gS (Vp rf rf (Cw _)) rfl ?_;refine oQ ?_
  (refine wK ?_;refine oQ ?_)
  ((refine wK ?_;refine eP ?_));((refine wK ?_;refine nJ ?_));((refine wK ?_;refine eP ?_));((refine wK ?_;refine nJ ?_));((refine wK ?_;refine eP ?_));((refine wK ?_;refine nJ ?_));((refine wK ?_;refine Ag (cMI (V:=Value.bool) (os':=λ _=>gD (a.Xr (eT a.cs x o n))) (hs':=λ _=>[(b,fT (a.Xr (eT a.cs x o n)))]) (Fc:=λ _=>[]) (A0:=A) (hm:=λ w=>oz _ _ _ _ w) (hc:=λ w hw=>zo hw x o n hx hl)) (λ x38 h38=>?_)));refine qj ?_;refine zP (λ _=>?_);refine iN ?_;refine fY ?_;refine fY ?_;refine dK ?_;refine eP ?_;refine nJ ?_;refine gS (K0 rf rf (aAn _ _ _)) rfl ?_;refine iN ?_
  refine Jl (λ c42=>?_) (λ c42=>?_)
  ·exact nv c42
  ·revert c42;(skip);intro c42
   refine Ek ?_;refine fY ?_;refine dK ?_;refine eP ?_;refine nJ ?_;refine oQ ?_;refine Ag (cMf (V:=λ y:Cd×Fr×AS=>.agg ⟨y.1.cells⟩) (hs:=[(b,fT (a.Xr (eT a.cs x o n)))]) (os:=gD (a.Xr (eT a.cs x o n))) (hs':=λ y=>[(b,fT y.2.2)]) (os':=λ y=>gD y.2.2) (Fc:=λ y=>y.2.1) (A0:=A) (f:=f) (cap:=cap) (vs:=[.bool x38]) (hp:=hp) (hc:=λ w1 hw=>hk x38 _ hle (a.Xr (eT a.cs x o n)) _ A w1 rfl (ok.Xr hn) hm2 hA hB hw)) (λ x47 h47=>?_);refine K7 (jF λ _=>bP rf cQ rf (eD _) eA rf lJ) (λ _=>?_);refine iN ?_
   refine Fo (yK _) (by kernel_rfl) Tryz.results86 (.cell rf cQ eA .nil) (λ w hw=>?_)
   exact⟨x47,rfl,⟨Vk h38▸h47.1,h47.2.1,⟨hle.trans h47.2.2.le,h47.2.2.fam⟩⟩,hw.ret (by repeat (first|exact List.Sublist.refl _|apply List.Sublist.cons)) (aX.iD λ f hf=>by simpa using hf) (List.Sublist.refl _)⟩
def nV(b:Nat)(p:Tr×Mm)(a:AS)(B:Fr)(y:Cd×Fr×AS):Prop:=(lP b p.1 p.2 y.1 p.2 (y.2.1++B)/\y.2.2.mm=p.2)/\y.2.2.Ok/\a.jO y.2.2 y.2.1
theorem nV.of{t0:Tr}{s0:Mm}{y:Cd×Fr×AS}{i m:Nat}(ht:bR t0 i m)(h:lP b t0 s0 y.1 y.2.2.mm (y.2.1++B)/\y.2.2.Ok/\a.jO y.2.2 y.2.1):nV b (Ct.iZ t0 s0) a B y/\eL (Ct.iZ t0 s0).1=true:=by
 obtain⟨h1,h2,h3⟩:=lP.iZ ht h.1
 exact⟨⟨⟨by rw[h1];exact h3,h1.symm⟩,h.2⟩,h2⟩
theorem Q1{i m:Nat}(ht:bR t (i+1) m)(ha:eL t=true)(hlv:t.live=true)(hr:lP b t a.mm c a.mm B)(ok:a.Ok)(hm:a.mm.Small)(hA:∀f∈aM a.L,f∈A)(hB:∀x∈B,x∈A)(hs:SF w D [(b,fT a)] A [] (gD a) w) :
  Calls Tryz.prog 86 #[.iface 42 (.pointer (some ⟨b,0,none⟩)),.agg ⟨c.cells⟩] w λ e w'=>∃y:Cd×Fr×AS,e=.returned (.agg ⟨y.1.cells⟩)/\(nV b (Bj (t,a.mm)) a B y/\eL (Bj (t,a.mm)).1=true)/\SF w D [(b,fT y.2.2)] [] y.2.1 (gD y.2.2) w':=by
 cases t with
 | done r=>cases hlv
 | load x k=>exact(Ex hr ok hm hA hB hs).mono λ e w' ⟨y,he,h,hw⟩=>⟨y,he,nV.of (ht _) h,hw⟩
 | kR x o n k=>exact(Iu hr ok hm hA hB hs).mono λ e w' ⟨y,he,h,hw⟩=>⟨y,he,nV.of (ht _) h,hw⟩
 | alloc n i k=>cases ha
 | cell i k=>cases ha
 | gen k=>cases ha
 | node r k=>cases ha
 | stuck=>cases ha
theorem Jo{i m:Nat}(ht:bR t (i+1) m)(ha:eL t=true)(hlv:t.live=true)(hr:lP b t a.mm c a.mm B)(ok:a.Ok)(hm:a.mm.Small)(hn:n<1000000000)(hA:∀f∈aM a.L,f∈A)(hB:∀x∈B,x∈A)(hs:SF w D [(bt,tO b c n),(b,fT a)] A [] (gD a) w) :
  Calls Tryz.prog 37 #[.pointer (some ⟨bt,0,none⟩)] w λ e w'=>∃y:Cd×Fr×AS,e=.returned (.tuple #[])/\(nV b (Bj (t,a.mm)) a B y/\eL (Bj (t,a.mm)).1=true)/\SF w D [(bt,tO b y.1 (n+1)),(b,fT y.2.2)] [] y.2.1 (gD y.2.2) w':=by
 have hk:c.a.k≠0:=λ e=>by have:=(hr.kind ha).1.1 e;rw[hlv] at this;cases this
 refine enter Tryz.func37 Tryz.ntmps37 rfl rfl hs ?_
 simp only[bX]
 refine jV ?_;refine aT (cV (hc:=λ w1 hw=>vF (hw.st.at cQ))) (λ x3=>?_);refine aA ?_
 (refine dZ 4 (λ g4=>?_) (λ g4=>?_)<;>(try (exfalso;omega))<;>((refine aF ?_;refine aA ?_)))
 ((refine aF ?_;refine dC ?_));refine J6 ?_;refine cA ?_;refine aH ?_
 refine bB (λ c9=>?_) (λ c9=>?_)
 ·exact nv c9
 ·try (exfalso;omega)
  refine bA ?_;refine J13 ?_;refine uP ?_;refine lR ?_;refine Fi ?_;refine N7 ?_;refine aV ?_;refine gF [0,1,2,3,4,5,6,7,8,9,10,11,12] ?_;refine W9 ?_;refine J9 ?_;refine bQ (i:=8) (hq:=(aQ (k:=14) (vs:=c.cells) rf cQ eA rfl rfl)) (h:=?_);refine aZ (i:=9) (hq:=(cM (V:=λ y:Cd×Fr×AS=>.agg ⟨y.1.cells⟩) (Fc:=λ y=>y.2.1) (hs:=[(b,fT a)]) (os:=gD a) (A0:=A) (hs':=λ y=>[(b,fT y.2.2)]) (os':=λ y=>gD y.2.2) (hc:=λ w hw=>Q1 ht ha hlv hr ok hm hA hB hw))) (h:=λ x29 h29=>?_);refine J4 ?_;refine kH (i:=12) (hq:=(jF λ _=>lK (off:=1) (vs:=x29.1.cells) (cs:=tkC b x29.1 (n+1) true) rf cQ rf (eD _) eA (Nat.le_of_ble_eq_true rfl) rf lJ)) (h:=λ _=>?_);refine dW ?_;refine Ak ?_;refine N7 ?_
  refine D2 Tryz.results37 (λ w hw=>?_)
  exact⟨x29,rfl,h29,hw.ret (List.Sublist.refl _) (aX.iD λ f hf=>by simpa using hf) (List.Sublist.refl _)⟩
theorem kr{i m:Nat}(ht:bR t i m)(h:Th0 b t a.mm f cap B)(ok:a.Ok)(hm:a.mm.Small)(hA:∀f∈aM a.L,f∈A)(hB:∀x∈B,x∈A)(hs:SF w D [(b,fT a)] A [] (gD a) w) :
  Calls Tryz.prog 73 #[.iface 42 (.pointer (some ⟨b,0,none⟩)),.func (.func f) #[] ⟨cap⟩] w λ e w'=>∃x:Nat×Cd×Fr×AS,e=.returned (.pointer (some ⟨x.1,0,none⟩))/\(nV b (Ct.iZ t a.mm) a B x.2/\eL (Ct.iZ t a.mm).1=true)/\SF w D [(x.1,tO b x.2.1 0),(b,fT x.2.2.2)] [] x.2.2.1 (gD x.2.2.2) w':=by
 refine enter Tryz.func73 Tryz.ntmps73 rfl rfl hs ?_
 simp only[bX]
 refine cO ?_;refine J2 ?_;refine bJ ?_;refine bK (λ x8=>?_);refine yA ?_;refine aD (cM (V:=λ y:Cd×Fr×AS=>.agg ⟨y.1.cells⟩) (Fc:=λ y=>y.2.1) (hs:=[(b,fT a)]) (os:=gD a) (A0:=A) (hs':=λ y=>[(b,fT y.2.2)]) (os':=λ y=>gD y.2.2) (hc:=λ w1 hw=>ji h ok hm hA hB hw)) (λ x11 h11=>?_);refine Ni ?_;refine cZ (jF λ _=>lK (off:=1) (vs:=x11.1.cells) (cs:=tkC b x11.1 0 false) rf cQ rf (eD _) eA (Nat.le_of_ble_eq_true rfl) rf lJ) (λ _=>?_);refine aH ?_;refine J2 ?_;refine J1 ?_
 refine aS Tryz.results73 (λ w hw=>?_)
 exact⟨(x8,x11),rfl,nV.of ht h11,hw.ret (List.Sublist.refl _) (aX.iD λ f hf=>by simpa using hf) (List.Sublist.refl _)⟩
end
end

end Go.Proofs.YtbajmaoegmbfgaaGreat
