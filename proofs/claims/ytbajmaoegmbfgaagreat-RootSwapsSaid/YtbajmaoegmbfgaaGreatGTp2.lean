/- The procedures with shared cells, as trees. -/
import Derived.Test.YtbajmaoegmbfgaaGreatGVw1
import Derived.Test.YtbajmaoegmbfgaaGreatGTr3
import Derived.Test.YtbajmaoegmbfgaaGreatGDfr
import Derived.Test.YtbajmaoegmbfgaaGreatGAr5

set_option linter.unusedSimpArgs false
set_option linter.unusedVariables false
namespace Go.Ct
section
def NI.c0(a:NI):Nv:=a.n.c a.xs a.ys
end
end Go.Ct
namespace Go.Proofs.YtbajmaoegmbfgaaGreat
section
open Go.RowKit Go.Ct
structure fY where
 root:Int
 ro:Bool
structure Cl where
 kind:Int
 t:fY
 a:Int
 b:Int
 n:Int
 index:Int
 hash:Int
 mask:Int
 key:ByteArray
 val:Int
 exp:Int
 H4:Int
 only:Bool
def gF(h:Nat)(level:Int):Int:=if level<0∨10<level then 0 else(sl h level.toNat:Int)
def yI(p:Int):Nv:=({Nd.zero with kind:=7,bC:=p}:Nd).c [] []
def qU(g:Int):Nv:=({Nd.zero with kind:=2,gen:=g}:Nd).c [] []
def Cb(a b c:Int):Nv:=({Nd.zero with kind:=8,bC:=a,exp:=b,new:=c}:Nd).c [] []
def G8(h:Int)(k:ByteArray)(u:Int):Nv:=({Nd.zero with kind:=4,hash:=h,key:=k,val:=u}:Nd).c [] []
def Lt:Nv:=({Nd.zero with kind:=3}:Nd).c [] []
def vn(v s:Int)(K:Int->Tr):Tr:=.node v λ n=>K (if s=1 then n.new else n.bC)
def qN(t:fY)(v s:Int)(K:Int->Tr):Tr:=vn v s λ w=>.jZ t.root v w λ _=>K w
def Jg(t:fY)(K:Int->Tr):Tr:=.load t.root λ v=>.node v λ n=>if n.kind=2 then K v else .node v λ n=>.load n.status λ s =>
 if s=0 then .node v λ n=>.jZ n.status 0 2 λ _=>.node v λ n=>.load n.status λ s=>qN t v s K else qN t v s K
def O8(i m p:Int)(K:Int->Tr):Tr:=.node i λ ni=>.node p λ np=>.jZ ni.main m np.bC λ _=>.node p λ np=>K np.bC
def jJ(i m:Int)(K:Int->Tr):Tr:=.node m λ nm=>.load nm.prev λ p=>if p=0 then K m else O8 i m p K
def pX(i m p:Int)(c:Bool)(K:Int->Tr):Tr :=
 if c=true then .node m λ nm=>.jZ nm.prev p 0 λ _=>jJ i m K
 else .node m λ nm=>.alloc (yI p) 0 λ f=>.jZ nm.prev p f λ _=>jJ i m K
def rX(t:fY)(i m:Int)(K:Int->Tr):Tr:=.node m λ nm=>.load nm.prev λ p=>if p=0 then K m else .node p λ np =>
 if cI np then(if t.ro=true then pX i m p false K else Jg t λ r=>.node r λ nr=>.node i λ ni=>pX i m p (nr.gen==ni.gen) K)
 else O8 i m p K
def nF(t:fY)(i:Int)(K:Int->Tr):Tr:=.node i λ ni=>.load ni.main λ m=>rX t i m K
def tF(t:fY)(v:Int)(K:Tr):Tr:=.node v λ n=>nF t n.bC λ r=>.node v λ n2=>.node v λ n3=>.jZ n3.status 0 (if r=n2.exp then 1 else 2) λ _=>K
def yA(t:fY)(K:Int->Tr):Tr:=.load t.root λ v=>.node v λ n=>if n.kind=2 then K v else .node v λ n=>.load n.status λ s =>
 if s=0 then tF t v (.node v λ n=>.load n.status λ s=>qN t v s K) else qN t v s K
def nG(t:fY)(i bC n:Int)(K:Bool->Tr):Tr:=.node i λ ni=>.jZ ni.main bC n λ b=>if b=true then rX t i n λ m=>K (m==n) else K false
def nL(t:fY)(bC exp new:Int)(K:Bool->Tr):Tr:=.alloc (Cb bC exp new) 0 λ d=>.jZ t.root bC d λ b =>
 if b=true then tF t d (.node d λ nd=>.load nd.status λ s=>qN t d s λ _=>K (s==1)) else K false
noncomputable def He (c index r:Int) (K:Int->Tr):Tr:=.node c λ nc=>.alloc (Z0 nc index r) c K
noncomputable def Lc (t:fY) (i c index:Int) (K:Int->Tr):Tr:=.node c λ nc=>nF t ((lN nc index).getD 0) λ m=>.node i λ ni=>.alloc (qU ni.gen) m λ j =>
 He c index j λ r=>nG t i c r λ ok=>K (if ok=true then j else 0)
noncomputable def yM (t:fY) (parent child:Int) (h:Nat) (level:Int) (K:Bool->Tr):Tr:=nF t parent λ m=>.node m λ nm =>
 if lN nm (gF h level)=some child then nF t child λ mc=>.node mc λ nmc =>
  if nmc.kind=5 then .alloc (ym nmc) 0 λ s=>.node m λ nm2=>.alloc (vl (Z0 nm2 (gF h level) s) level (ym nmc)) m λ r=>nG t parent m r K
  else K false
 else K false
def jE(f:Bool)(v:Int):Rs:=⟨0,f,v,⟨#[]⟩,0,0,0,false⟩
def rE(f:Bool)(v:Int):Rs:=⟨0,f,v,⟨#[]⟩,1,0,0,false⟩
noncomputable def Cx (t:fY) (h:Nat) (key:ByteArray) (K:Rs->Tr):Nat->Int->Int->Tr
 | 0,_,_=>.stuck
 | n+1,i,level=>nF t i λ mr=>.node mr λ m =>
  if m.kind=5 then(if m.key=key then K (jE true m.val) else K (jE false 0))
  else if m.kind=6 then K (jE (dL m.ys key).isSome ((dL m.ys key).getD 0))
  else match lN m (gF h level) with
   | none=>K (jE false 0)
   | some b=>.node b λ s=>if s.kind=4 then(if s.key=key then K (jE true s.val) else K (jE false 0)) else Cx t h key K n b (level+1)
def mT(c:Cl)(found:Bool)(v:Int):Bool:=if c.H4=1 then !found else if c.H4=2 then found else if c.H4=3 then found&&v==c.exp else true
def Ak:List NI->Int->(Int->Tr)->Tr
 | [],r,K=>K r
 | a::l,_,K=>.alloc a.c0 a.init λ r=>Ak l r K
def dP(at_:Int)(h0 h:Nat)(p:Pr)(k:ByteArray)(u gen:Int)(fi lvl:Nat):List NI:=dN at_ h0 h p k u gen fi (kI h0 h-lvl) (kI h0 h-(kI h0 h-lvl))
def Tz(c:Cl)(b:Int)(h:Nat)(level:Nat)(gen:Int)(K:Int->Tr):Tr:=.node b λ nb =>
 .alloc ((dP b nb.hash.toNat h (nb.key,nb.val) c.key c.val gen 0 level).headD NI.no).c0 ((dP b nb.hash.toNat h (nb.key,nb.val) c.key c.val gen 0 level).headD NI.no).init λ f =>
 Ak (dP b nb.hash.toNat h (nb.key,nb.val) c.key c.val gen f.toNat level).tail f K
noncomputable def lQ (c:Cl) (i m:Int) (h:Nat) (level:Nat) (gen:Int) (K:Rs->Int->Tr):Tr:=.node m λ n =>
 if n.kind=6 then
  (if mT c (dL n.ys c.key).isSome ((dL n.ys c.key).getD 0)=true then
   .alloc (xh n c.key c.val) m λ r=>nG c.t i m r λ ok=>K (rE (dL n.ys c.key).isSome ((dL n.ys c.key).getD 0)) (if ok=true then 1 else 0)
  else K (jE (dL n.ys c.key).isSome ((dL n.ys c.key).getD 0)) 1)
 else match lN n (gF h level) with
  | none=>if mT c false 0=true then .alloc (G8 h c.key c.val) 0 λ s=>.alloc (vo n (gF h level) s) m λ r=>nG c.t i m r λ ok=>K (rE false 0) (if ok=true then 1 else 0) else K (jE false 0) 1
  | some b=>.node b λ nb=>if nb.kind=2 then K Rs.zero 2 else
   if nb.key=c.key then
    (if mT c true nb.val=true then .alloc (G8 h c.key c.val) 0 λ s=>He m (gF h level) s λ r=>nG c.t i m r λ ok=>K (rE true nb.val) (if ok=true then 1 else 0)
    else K (jE true nb.val) 1)
   else
    (if mT c false 0=true then Tz c b h (level+1) gen λ d=>.alloc (qU gen) d λ j=>He m (gF h level) j λ r=>nG c.t i m r λ ok=>K (rE false 0) (if ok=true then 1 else 0)
    else K (jE false 0) 1)
noncomputable def Ho (c:Cl) (i m index gen:Int) (K:Int->Tr):Tr:=.node m λ nm=>.node ((lN nm index).getD 0) λ nb=>if nb.gen=gen then K ((lN nm index).getD 0) else Lc c.t i m index K
noncomputable def C3 (c:Cl) (h:Nat) (K:Rs->Tr) (again:Tr) (gen:Int):Nat->Int->Int->Nat->Tr
 | 0,_,_,_=>.stuck
 | n+1,i,parent,level=>nF c.t i λ m=>.node m λ nm =>
  if nm.kind=5 then yM c.t parent i h ((level:Int)-1) λ _=>again
  else lQ c i m h level gen λ r what=>if what=1 then K r else if what=0 then again else
   Ho c i m (gF h level) gen λ b=>if b=0 then again else C3 c h K again gen n b i (level+1)
noncomputable def Em (c:Cl) (h:Nat) (K:Rs->Tr):Nat->Tr
 | 0=>.stuck
 | n+1=>yA c.t λ i=>.node i λ ni=>C3 c h K (Em c h K n) ni.gen n i 0 0
noncomputable def jU (c:Cl) (i m:Int) (h:Nat) (level:Nat) (K:Rs->Int->Tr):Tr:=.node m λ n =>
 if n.kind=6 then
  (if(dL n.ys c.key).isSome=false∨(c.only=true/\(dL n.ys c.key).getD 0≠c.exp) then K (jE (dL n.ys c.key).isSome ((dL n.ys c.key).getD 0)) 1
  else .alloc (p8 n c.key) m λ r=>nG c.t i m r λ ok=>K (rE true ((dL n.ys c.key).getD 0)) (if ok=true then 1 else 0))
 else match lN n (gF h level) with
  | none=>K (jE false 0) 1
  | some b=>.node b λ s=>if s.kind=2 then K Rs.zero 2 else if s.key≠c.key then K (jE false 0) 1 else if c.only=true/\s.val≠c.exp then K (jE true s.val) 1
   else .node ((Ly (Mc n (gF h level))).getD 0) λ so=>.alloc (vl (Mc n (gF h level)) level so) m λ r=>nG c.t i m r λ ok=>K (rE true s.val) (if ok=true then 1 else 0)
noncomputable def sm (t:fY) (path:List Int) (h:Nat) (K:Tr):Nat->Tr
 | 0=>K
 | l+1=>nF t (path.getD (l+1) 0) λ m=>.node m λ nm=>if nm.kind=5 then yM t (path.getD l 0) (path.getD (l+1) 0) h (l:Int) λ _=>sm t path h K l else K
noncomputable def uR (c:Cl) (h:Nat) (K:Rs->Tr) (again:Tr) (gen:Int):Nat->Int->List Int->Nat->Tr
 | 0,_,_,_=>.stuck
 | n+1,i,path,level=>nF c.t i λ m=>.node m λ nm =>
  if nm.kind=5 then yM c.t (path.getD (level-1) 0) i h ((level:Int)-1) λ _=>again
  else jU c i m h level λ r what=>if what=1 then(if r.fZ=1 then sm c.t path h (K r) (path.length-1) else K r) else if what=0 then again else
   Ho c i m (gF h level) gen λ b=>if b=0 then again else uR c h K again gen n b (path++[b]) (level+1)
noncomputable def vP (c:Cl) (h:Nat) (K:Rs->Tr):Nat->Tr
 | 0=>.stuck
 | n+1=>yA c.t λ i=>.node i λ ni=>uR c h K (vP c h K n) ni.gen n i [i] 0
def N8(root:Int)(ro:Bool):Rs:=⟨0,true,0,⟨#[]⟩,0,0,root,ro⟩
def N0(m:Int)(K:Rs->Tr):Tr:=.gen λ g=>.alloc (qU g) m λ r=>.cell r λ c=>K (N8 c false)
def Jm(t:fY)(fz:Bool)(K:Rs->Tr):Nat->Tr
 | 0=>.stuck
 | n+1=>yA t λ r=>nF t r λ m=>.gen λ g=>.alloc (qU g) m λ j=>nL t r m j λ ok =>
  if ok=true then(if fz=true then .cell r λ c=>K (N8 c true) else N0 m K) else Jm t fz K n
def sS(t:fY)(fz:Bool)(K:Rs->Tr)(n:Nat):Tr :=
 if t.ro=true then .load t.root λ r=>if fz=true then .cell r λ c=>K (N8 c true) else nF t r λ m=>N0 m K
 else Jm t fz K n
def yY(t:fY)(K:Rs->Tr):Nat->Tr
 | 0=>.stuck
 | n+1=>yA t λ r=>nF t r λ m=>.alloc Lt 0 λ c=>.gen λ g=>.alloc (qU g) c λ j=>nL t r m j λ ok =>
  if ok=true then K (jE true 0) else yY t K n
def pR(r:Int)(f:Bool):Rs:=⟨0,f,0,⟨#[]⟩,0,r,0,false⟩
def refuse(c:Cl):Int:=if c.kind=7∨c.kind=9 then(if c.key.size<=64 then 0 else 1) else if c.kind=8 then(if c.key.size<=64/\0<=c.H4/\c.H4<=3 then 0 else 1) else 0
noncomputable def kA (c:Cl) (h:Nat) (n:Nat):Tr :=
 if refuse c≠0 then .done {Rs.zero with err:=refuse c}
 else if c.kind=1 then nF c.t c.a λ r=>.done (pR r false)
 else if c.kind=2 then nG c.t c.a c.b c.n λ ok=>.done (pR 0 ok)
 else if c.kind=3 then yA c.t λ r=>.done (pR r false)
 else if c.kind=4 then nL c.t c.a c.b c.n λ ok=>.done (pR 0 ok)
 else if c.kind=7 then yA c.t λ i=>Cx c.t h c.key .done n i 0
 else if c.kind=8 then Em c h .done n
 else if c.kind=9 then vP c h .done n
 else if c.kind=10 then sS c.t false .done n
 else if c.kind=11 then sS c.t true .done n
 else yY c.t .done n
end

/- Codes with a store: what they mean as trees. -/
end Go.Proofs.YtbajmaoegmbfgaaGreat
namespace Go.Ct
section
open Go Go.RowKit
structure AS where
 L:List aU
 cs:List Int
 gen:Int
 acc:Int
 pn:Option Addr
 cn:Nat
 pc:Option Addr
 cc:Nat
def AS.mm(a:AS):Mm:=⟨(cY a.L).map aU.c,a.cs,a.gen⟩
structure Yf(s:Mm):Prop where
 nd:∀v∈s.nodes,lD s.nodes.length s.cs.length v
 cs:∀v∈s.cs,v<=s.nodes.length
 two:2<=s.nodes.length
structure AS.Ok(a:AS):Prop where
 fit:Fits a.L
 mo:Yf a.mm
structure Mm.Le(s s1:Mm):Prop where
 nodes:∃N,s1.nodes=s.nodes++N
 cl:s.cs.length<=s1.cs.length
def Mm.Small(s:Mm):Prop:=s.nodes.length<=137438953472/\s.cs.length<=137438953472
structure AS.iV(a a':AS)(F:Fr):Prop where
 le:a.mm.Le a'.mm
 fam:∀f∈aL a'.L,f.2=[]∨f∈aL a.L∨f∈F
theorem Mm.Le.refl(s:Mm):s.Le s:=⟨⟨[],by simp⟩,Nat.le_refl _⟩
theorem Mm.Le.trans{s t u:Mm}(h:s.Le t)(h2:t.Le u):s.Le u:=by
 obtain⟨⟨N,e⟩,c⟩:=h
 obtain⟨⟨M,e2⟩,c2⟩:=h2
 exact⟨⟨N++M,by rw[e2,e,List.append_assoc]⟩,Nat.le_trans c c2⟩
theorem Mm.Le.len{s t:Mm}(h:s.Le t):s.nodes.length<=t.nodes.length:=by obtain⟨N,e⟩:=h.nodes;rw[e,List.length_append];omega
theorem Mm.Le.nd{s t:Mm}(h:s.Le t){r:Int}(hr:r<=s.nodes.length):eD t.nodes r=eD s.nodes r:=by obtain⟨N,e⟩:=h.nodes;rw[e];exact F3 hr
theorem AS.iV.refl(a:AS):a.iV a []:=⟨Mm.Le.refl _,λ f hf=>.inr (.inl hf)⟩
theorem AS.iV.more{a a':AS}{F F':Fr}(h:a.iV a' F)(hs:∀f∈F,f∈F'):a.iV a' F':=⟨h.le,λ f hf=>(h.fam f hf).imp_right λ h=>h.imp_right λ h=>hs f h⟩
theorem AS.iV.trans{a b c:AS}{F G:Fr}(h:a.iV b F)(h2:b.iV c G):a.iV c (G++F):=⟨h.le.trans h2.le,λ f hf=>by
 rcases h2.fam f hf with h1|h1|h1
 ·exact .inl h1
 ·rcases h.fam f h1 with h1|h1|h1
  ·exact .inl h1
  ·exact .inr (.inl h1)
  ·exact .inr (.inr (List.mem_append_right _ h1))
 ·exact .inr (.inr (List.mem_append_left _ h1))⟩
theorem Yf.at{s:Mm}(h:Yf s)(r:Int):lD s.nodes.length s.cs.length (eD s.nodes r):=by
 unfold eD
 split
 ·refine h.nd _ ?_
  rw[jY,List.getElem?_eq_getElem (by omega)]
  exact List.getElem_mem _
 ·exact Pg _ _
theorem Yf.cell{s:Mm}(h:Yf s)(c:Int):bU s.cs c<=s.nodes.length:=by
 unfold bU
 split
 ·exact lV h.cs _
 ·exact bH _
theorem Yf.jZ{s:Mm}(h:Yf s){c o n:Int}(hn:n<=s.nodes.length):Yf ⟨s.nodes,eK s.cs c o n,s.gen⟩:=by
 refine⟨λ v hv=>by simp only[gR];exact h.nd v hv,λ v hv=>?_,h.two⟩
 simp only[eK] at hv
 split at hv
 ·rcases List.mem_or_eq_of_mem_set hv with hv|rfl
  ·exact h.cs v hv
  ·exact hn
 ·exact h.cs v hv
def iZ:Tr->Mm->Tr×Mm
 | .alloc n i k,s=>iZ (k ((s.nodes.length+1:Nat):Int)) (s.push n i)
 | .cell i k,s=>iZ (k ((s.cs.length+1:Nat):Int)) ⟨s.nodes,s.cs++[i],s.gen⟩
 | .gen k,s=>iZ (k (s.gen+1)) ⟨s.nodes,s.cs,s.gen+1⟩
 | .node r k,s=>iZ (k (eD s.nodes r)) s
 | t,s=>(t,s)
def nxT:Tr->Mm->Tr×Mm
 | .load c k,s=>(k (bU s.cs c),s)
 | .jZ c o n k,s=>(k (iq s.cs c o),⟨s.nodes,eK s.cs c o n,s.gen⟩)
 | t,s=>(t,s)
def A1(p:Tr×Mm):Tr×Mm:=iZ (nxT p.1 p.2).1 (nxT p.1 p.2).2
def Tr.live:Tr->Bool
 | .done _=>false
 | _=>true
def wS(p:Tr×Mm):Nat->Tr×Mm
 | 0=>p
 | k+1=>A1 (wS p k)
theorem aAe{t t':Tr}{s s':Mm}(h:Lp t s t' s'):nxT t s=(t',s')/\∀u,iZ t u=(t,u):=by
 cases h with
 | load c k s=>exact⟨rfl,λ _=>rfl⟩
 | jZ c o n k s b hb=>rw[T5 hb];exact⟨rfl,λ _=>rfl⟩
theorem an{t t':Tr}{s s':Mm}(h:Sp t s t' s'):iZ t s=iZ t' s':=by
 cases h<;>rfl
theorem iy{j:Nat}{t t':Tr}{s s':Mm}(h:Rc j t s t' s'):(j=0->iZ t s=iZ t' s')/\(j=1->A1 (iZ t s)=iZ t' s'):=by
 induction h with
 | refl t s=>exact⟨λ _=>rfl,λ h=>nomatch h⟩
 | iZ _ hs ih=>exact⟨λ e=>(ih.1 e).trans (an hs),λ e=>(ih.2 e).trans (an hs)⟩
 | loud _ hs ih =>
  refine⟨(λ e=>nomatch e),λ e=>?_⟩
  obtain⟨h1,h2⟩:=aAe hs
  rw[ih.1 (by omega),h2]
  unfold A1
  rw[h1]
end
end Go.Ct
namespace Go.Proofs.YtbajmaoegmbfgaaGreat
section
open Go Go.RowKit Go.Ct
theorem Gq{t:Tr}(h:eE t=true)(s:Mm):iZ t s=(t,s):=by
 cases t<;>first|rfl|cases h
theorem xm{t t':Tr}{s s':Mm}(h:Rc 0 t s t' s')(ha:eE t'=true):iZ t s=(t',s'):=by rw[(iy h).1 rfl,Gq ha]
theorem wo{t t':Tr}{s s':Mm}(h:Rc 1 t s t' s')(h0:eE t=true)(ha:eE t'=true):A1 (t,s)=(t',s'):=by rw[<- Gq h0 s,(iy h).2 rfl,Gq ha]
abbrev eN(a:AS):Obj:=aO a.L a.cs a.gen a.acc a.pn a.cn a.pc a.cc
abbrev eS(a:AS):List Ow:=mW a.L a.cs a.pn a.cn a.pc a.cc
def Bh(b:Nat)(R:Cd->Mm->Fr->Prop)(a:AS)(B:Fr)(D:List Nat)(w:World):Ending->World->Prop:=λ e w'=>∃y:Cd×Fr×AS,e=.returned (.agg ⟨y.1.cells⟩)/\(R y.1 y.2.2.mm (y.2.1++B)/\y.2.2.Ok/\a.iV y.2.2 y.2.1)/\SF w D [(b,eN y.2.2)] [] y.2.1 (eS y.2.2) w'
def zQ(b:Nat)(f:FuncId)(cap:List Value)(arg:List Value)(B:Fr)(s:Mm)(R:Cd->Mm->Fr->Prop):Prop :=
 ∀(a:AS) (D:List Nat) (A:Fr) (w:World),a.mm=s->a.Ok->s.Small->(∀f∈aL a.L,f∈A)->(∀f∈B,f∈A)->SF w D [(b,eN a)] A [] (eS a) w->Calls Tryz.prog f ⟨arg++cap⟩ w (Bh b R a B D w)
def kD(b:Nat):Tr->Mm->Cd->Mm->Fr->Prop
 | .done r,s,c,s2,_=>s2=s/\c=Bq r
 | .load x k,s,c,s2,B=>s2=s/\x<=9223372036854775807/\∃f cap,c=qK x f cap/\plain Tryz.prog f=true/\∀(v:Int) (s1:Mm),s.Le s1->v<=s1.nodes.length->zQ b f cap [.int .i64 v] B s1 λ c' s' B'=>kD b (k v) s1 c' s' B'
 | .jZ x o n k,s,c,s2,B=>s2=s/\x<=9223372036854775807/\n<=s.nodes.length/\∃f cap,c=tQ x o n f cap/\plain Tryz.prog f=true/\∀(v:Bool) (s1:Mm),s.Le s1->zQ b f cap [.bool v] B s1 λ c' s' B'=>kD b (k v) s1 c' s' B'
 | .alloc n i k,s,c,s2,B=>kD b (k ((s.nodes.length+1:Nat):Int)) (s.push n i) c s2 B
 | .cell i k,s,c,s2,B=>kD b (k ((s.cs.length+1:Nat):Int)) ⟨s.nodes,s.cs++[i],s.gen⟩ c s2 B
 | .gen k,s,c,s2,B=>kD b (k (s.gen+1)) ⟨s.nodes,s.cs,s.gen+1⟩ c s2 B
 | .node r k,s,c,s2,B=>r<=s.nodes.length/\kD b (k (eD s.nodes r)) s c s2 B
 | .stuck,_,_,_,_=>True
def Du(b:Nat)(K:Int->Tr)(s:Mm)(f:FuncId)(cap:List Value)(B:Fr):Prop:=plain Tryz.prog f=true/\∀(v:Int) (s1:Mm),s.Le s1->v<=s1.nodes.length->zQ b f cap [.int .i64 v] B s1 λ c' s' B'=>kD b (K v) s1 c' s' B'
def Q2(b:Nat)(K:Bool->Tr)(s:Mm)(f:FuncId)(cap:List Value)(B:Fr):Prop:=plain Tryz.prog f=true/\∀(v:Bool) (s1:Mm),s.Le s1->zQ b f cap [.bool v] B s1 λ c' s' B'=>kD b (K v) s1 c' s' B'
def Xr(b:Nat)(t:Tr)(s:Mm)(f:FuncId)(cap:List Value)(B:Fr):Prop:=plain Tryz.prog f=true/\∀s1:Mm,s.Le s1->zQ b f cap [] B s1 λ c' s' B'=>kD b t s1 c' s' B'
section
variable{b:Nat}{f:FuncId}{cap arg:List Value}{B B2:Fr}{s s1 s2:Mm}{t:Tr}{c:Cd}
theorem zQ.more{R R2:Cd->Mm->Fr->Prop}(h:zQ b f cap arg B s R)(hb:∀x∈B,x∈B2)(hR:∀c m C C2,(∀x∈C,x∈C2)->R c m C->R2 c m C2):zQ b f cap arg B2 s R2:=λ a D A w e1 ok hs h1 h2 hw =>
 (h a D A w e1 ok hs h1 (λ x hx=>h2 x (hb x hx)) hw).mono λ e w' ⟨y,he,⟨hr,h3⟩,hs⟩=>⟨y,he,⟨hR _ _ _ _ (λ x hx=>by
  rcases List.mem_append.1 hx with h1|h1
  ·exact List.mem_append_left _ h1
  ·exact List.mem_append_right _ (hb x h1)) hr,h3⟩,hs⟩
theorem kD.more:∀{t:Tr} {s s2:Mm} {c:Cd} {B B2:Fr},kD b t s c s2 B->(∀x∈B,x∈B2)->kD b t s c s2 B2
 | .done _,_,_,_,_,_,h,_=>h
 | .load _ k,_,_,_,_,_,⟨h0,h1,f,cap,h2,h3,h4⟩,hb=>⟨h0,h1,f,cap,h2,h3,λ v s1 l hv=>(h4 v s1 l hv).more hb λ _ _ _ _ hC h=>kD.more (t:=k v) h hC⟩
 | .jZ _ _ _ k,_,_,_,_,_,⟨h0,h1,hn,f,cap,h2,h3,h4⟩,hb=>⟨h0,h1,hn,f,cap,h2,h3,λ v s1 l=>(h4 v s1 l).more hb λ _ _ _ _ hC h=>kD.more (t:=k v) h hC⟩
 | .alloc n i k,s,_,_,_,_,h,hb=>kD.more (t:=k ((s.nodes.length+1:Nat):Int)) h hb
 | .cell i k,s,_,_,_,_,h,hb=>kD.more (t:=k ((s.cs.length+1:Nat):Int)) h hb
 | .gen k,s,_,_,_,_,h,hb=>kD.more (t:=k (s.gen+1)) h hb
 | .node r k,s,_,_,_,_,h,hb=>⟨h.1,kD.more (t:=k (eD s.nodes r)) h.2 hb⟩
 | .stuck,_,_,_,_,_,_,_=>trivial
theorem Du.more{K:Int->Tr}(h:Du b K s f cap B)(hb:∀x∈B,x∈B2):Du b K s f cap B2:=⟨h.1,λ v s1 l hv=>(h.2 v s1 l hv).more hb λ _ _ _ _ hC h=>kD.more h hC⟩
theorem Q2.more{K:Bool->Tr}(h:Q2 b K s f cap B)(hb:∀x∈B,x∈B2):Q2 b K s f cap B2:=⟨h.1,λ v s1 l=>(h.2 v s1 l).more hb λ _ _ _ _ hC h=>kD.more h hC⟩
theorem Xr.more(h:Xr b t s f cap B)(hb:∀x∈B,x∈B2):Xr b t s f cap B2:=⟨h.1,λ s1 l=>(h.2 s1 l).more hb λ _ _ _ _ hC h=>kD.more h hC⟩
theorem Du.le{K:Int->Tr}(h:Du b K s f cap B)(l:s.Le s1):Du b K s1 f cap B:=⟨h.1,λ v s2 l2 hv=>h.2 v s2 (l.trans l2) hv⟩
theorem Q2.le{K:Bool->Tr}(h:Q2 b K s f cap B)(l:s.Le s1):Q2 b K s1 f cap B:=⟨h.1,λ v s2 l2=>h.2 v s2 (l.trans l2)⟩
theorem Xr.le(h:Xr b t s f cap B)(l:s.Le s1):Xr b t s1 f cap B:=⟨h.1,λ s2 l2=>h.2 s2 (l.trans l2)⟩
theorem kD.kind(h:kD b t s c s2 B)(ha:eE t=true):(c.a.k=0↔t.live=false)/\(∀r,t=.done r->c.r=r)/\(∀x,t.acc=some x->c.a=x):=by
 cases t with
 | done r=>rw[h.2];exact⟨⟨λ _=>rfl,λ _=>rfl⟩,(λ r e=>by cases e;rfl),(λ x e=>nomatch e)⟩
 | load x k =>
  obtain⟨_,_,f,cap,e,_⟩:=h
  rw[e]
  exact⟨⟨λ h=>absurd h (show(1:Int)≠0 by decide),(λ h=>nomatch h)⟩,(λ r e=>nomatch e),λ x e=>by cases e;rfl⟩
 | jZ x o n k =>
  obtain⟨_,_,_,f,cap,e,_⟩:=h
  rw[e]
  exact⟨⟨λ h=>absurd h (show(2:Int)≠0 by decide),(λ h=>nomatch h)⟩,(λ r e=>nomatch e),λ x e=>by cases e;rfl⟩
 | alloc n i k=>cases ha
 | cell i k=>cases ha
 | gen k=>cases ha
 | node r k=>cases ha
 | stuck=>cases ha
theorem kD.le(h:kD b t s c s2 B)(ha:eE t=true)(l:s.Le s1):kD b t s1 c s1 B:=by
 cases t with
 | done r=>exact⟨rfl,h.2⟩
 | load x k =>
  obtain⟨_,h1,f,cap,e,hp,hk⟩:=h
  exact⟨rfl,h1,f,cap,e,hp,λ v s3 l3 hv=>hk v s3 (l.trans l3) hv⟩
 | jZ x o n k =>
  obtain⟨_,h1,hn,f,cap,e,hp,hk⟩:=h
  exact⟨rfl,h1,by have:=l.len;omega,f,cap,e,hp,λ v s3 l3=>hk v s3 (l.trans l3)⟩
 | alloc n i k=>cases ha
 | cell i k=>cases ha
 | gen k=>cases ha
 | node r k=>cases ha
 | stuck=>cases ha
theorem kD.iZ:∀{t:Tr} {s s2:Mm} {c:Cd} {n m:Nat},bQ t n m->kD b t s c s2 B->(iZ t s).2=s2/\eE (iZ t s).1=true/\kD b (iZ t s).1 s2 c s2 B
 | .done _,_,_,_,_,_,_,h=>by obtain⟨rfl,h2⟩:=h;exact⟨rfl,rfl,rfl,h2⟩
 | .load _ k,_,_,_,_,_,_,h=>by obtain⟨rfl,h2⟩:=h;exact⟨rfl,rfl,rfl,h2⟩
 | .jZ _ _ _ k,_,_,_,_,_,_,h=>by obtain⟨rfl,h2⟩:=h;exact⟨rfl,rfl,rfl,h2⟩
 | .alloc n i k,s,_,_,_,0,ht,h=>ht.elim
 | .alloc n i k,s,_,_,_,_+1,ht,h=>kD.iZ (t:=k ((s.nodes.length+1:Nat):Int)) (ht _) h
 | .cell i k,s,_,_,_,0,ht,h=>ht.elim
 | .cell i k,s,_,_,_,_+1,ht,h=>kD.iZ (t:=k ((s.cs.length+1:Nat):Int)) (ht _) h
 | .gen k,s,_,_,_,0,ht,h=>ht.elim
 | .gen k,s,_,_,_,_+1,ht,h=>kD.iZ (t:=k (s.gen+1)) (ht _) h
 | .node r k,s,_,_,_,_,ht,h=>kD.iZ (t:=k (eD s.nodes r)) (ht _) h.2
 | .stuck,_,_,_,_,_,ht,_=>ht.elim
end
section
variable{S:List (Nat×Value)}{w0 w:World}{M:List Nat}{H:List (Nat×Obj)}{A F:Fr}{O:List Ow}{ty:TypeId}{pos:String}{af:Array Edge}{gd:Option (Nat×Bool)}{X:Type}{V:X->Value}
theorem cMf{φ:X->Prop}{hs H':List (Nat×Obj)}{os O':List Ow}{hs' H1:X->List (Nat×Obj)}{os' O1:X->List Ow}{Fc F1:X->Fr}{A0:Fr}{is js:List Nat}{f:FuncId}{cap:List Value}{xs:List Operand}{at_:Array TypeId}{vs:List Value}{dst:Option Nat}{x:Operand}
  (hx:ev S x=.func (.func f) #[] ⟨cap⟩:=by exact rfl) (ha:pV S xs=vs:=by(repeat (first|exact cL _|(apply bX;focus ((conv=>{lhs;whnf});try exact rfl))));first|done|fail) (hp:plain Tryz.prog f=true)
  (hc:∀w,SF w (Ks hs os) hs A0 [] os w->Calls Tryz.prog f ⟨vs++cap⟩ w λ e w'=>∃x,e=.returned (V x)/\φ x/\SF w (Ks hs os) (hs' x) [] (Fc x) (os' x) w')
  (hH:lF H is hs H':=by(repeat (first|exact lF.nil|(apply lF.cons;(focus ((repeat (first|exact xY.head|apply xY.tail));done));simp only[pQ])));first|done|fail)
  (hO:lF O js os O':=by(repeat (first|exact lF.nil|(apply lF.cons;(focus ((repeat (first|exact xY.head|apply xY.tail));done));simp only[pQ])));first|done|fail)
  (hA:bA A F O' A0:=by exact bA.of (λ _ h=>Or.inr (Or.inl h)))
  (hl1:∀x,is.length=(hs' x).length:=by intro x;exact rfl) (hl2:∀x,js.length=(os' x).length:=by intro x;exact rfl)
  (hH1:∀x,iK is (hs' x) H'=H1 x:=by intro x;first|(simp only[iK,qS];exact rfl)|exact rfl) (hF1:∀x,Fc x++F=F1 x:=by intro x;first|(simp only[List.nil_append,List.cons_append];exact rfl)|exact rfl) (hO1:∀x,iK js (os' x) O'=O1 x:=by intro x;simp only[iK,qS,mW];exact rfl) :
  bE Tryz.prog S (SF w0 M H A F O) ⟨dst,.call {callee:=.value x,args:=⟨xs⟩,argTypes:=at_},ty,pos,af,gd⟩ X V (λ x w=>φ x/\SF w0 M (H1 x) A (F1 x) (O1 x) w) :=
 gJ (qd hx hp ha) λ w hw=>(hc w (hw.oT hH hO hA)).mono λ _ _ ⟨x,he,hx,hs⟩=>⟨x,he,hx,by
  have:=hw.xF (hs':=hs' x) (Hc:=[]) (os':=os' x) (Oc:=[]) hH hO (by simpa using hs) (hl1 x) (hl2 x)
  rw[<- hH1 x,<- hF1 x,<- hO1 x]
  simpa using this⟩
end
end

end Go.Proofs.YtbajmaoegmbfgaaGreat
