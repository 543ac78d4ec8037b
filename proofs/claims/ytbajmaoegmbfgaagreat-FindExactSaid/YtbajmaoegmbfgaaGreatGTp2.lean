/- The procedures with shared cells, as trees. -/
import Derived.Test.YtbajmaoegmbfgaaGreatGVw1
import Derived.Test.YtbajmaoegmbfgaaGreatGTr3
import Derived.Test.YtbajmaoegmbfgaaGreatGDfr
import Derived.Test.YtbajmaoegmbfgaaGreatGAr5

set_option linter.unusedSimpArgs false
set_option linter.unusedVariables false
namespace Go.Ct
section
def NI.c0(a:NI):Nv:=a.n.c a.xs a.ys
end
end Go.Ct
namespace Go.Proofs.YtbajmaoegmbfgaaGreat
section
open Go.RowKit Go.Ct
structure fY where
 root:Int
 ro:Bool
structure Cl where
 kind:Int
 t:fY
 a:Int
 b:Int
 n:Int
 index:Int
 hash:Int
 mask:Int
 key:ByteArray
 val:Int
 exp:Int
 Ho:Int
 only:Bool
def eP(h:Nat)(level:Int):Int:=if level<0∨10<level then 0 else(sl h level.toNat:Int)
def xV(p:Int):Nv:=({Nd.zero with kind:=7,bO:=p}:Nd).c [] []
def sO(g:Int):Nv:=({Nd.zero with kind:=2,gen:=g}:Nd).c [] []
def Ck(a b c:Int):Nv:=({Nd.zero with kind:=8,bO:=a,exp:=b,new:=c}:Nd).c [] []
def xZ(h:Int)(k:ByteArray)(u:Int):Nv:=({Nd.zero with kind:=4,hash:=h,key:=k,val:=u}:Nd).c [] []
def Kp:Nv:=({Nd.zero with kind:=3}:Nd).c [] []
def xg(v s:Int)(K:Int->Tr):Tr:=.node v λ n=>K (if s=1 then n.new else n.bO)
def oM(t:fY)(v s:Int)(K:Int->Tr):Tr:=xg v s λ w=>.kO t.root v w λ _=>K w
def xS(t:fY)(K:Int->Tr):Tr:=.load t.root λ v=>.node v λ n=>if n.kind=2 then K v else .node v λ n=>.load n.status λ s =>
 if s=0 then .node v λ n=>.kO n.status 0 2 λ _=>.node v λ n=>.load n.status λ s=>oM t v s K else oM t v s K
def Hy(i m p:Int)(K:Int->Tr):Tr:=.node i λ ni=>.node p λ np=>.kO ni.main m np.bO λ _=>.node p λ np=>K np.bO
def jP(i m:Int)(K:Int->Tr):Tr:=.node m λ nm=>.load nm.prev λ p=>if p=0 then K m else Hy i m p K
def kG(i m p:Int)(c:Bool)(K:Int->Tr):Tr :=
 if c=true then .node m λ nm=>.kO nm.prev p 0 λ _=>jP i m K
 else .node m λ nm=>.alloc (xV p) 0 λ f=>.kO nm.prev p f λ _=>jP i m K
def oS(t:fY)(i m:Int)(K:Int->Tr):Tr:=.node m λ nm=>.load nm.prev λ p=>if p=0 then K m else .node p λ np =>
 if dY np then(if t.ro=true then kG i m p false K else xS t λ r=>.node r λ nr=>.node i λ ni=>kG i m p (nr.gen==ni.gen) K)
 else Hy i m p K
def jH(t:fY)(i:Int)(K:Int->Tr):Tr:=.node i λ ni=>.load ni.main λ m=>oS t i m K
def qE(t:fY)(v:Int)(K:Tr):Tr:=.node v λ n=>jH t n.bO λ r=>.node v λ n2=>.node v λ n3=>.kO n3.status 0 (if r=n2.exp then 1 else 2) λ _=>K
def lI(t:fY)(K:Int->Tr):Tr:=.load t.root λ v=>.node v λ n=>if n.kind=2 then K v else .node v λ n=>.load n.status λ s =>
 if s=0 then qE t v (.node v λ n=>.load n.status λ s=>oM t v s K) else oM t v s K
def kH(t:fY)(i bO n:Int)(K:Bool->Tr):Tr:=.node i λ ni=>.kO ni.main bO n λ b=>if b=true then oS t i n λ m=>K (m==n) else K false
def Bg(t:fY)(bO exp new:Int)(K:Bool->Tr):Tr:=.alloc (Ck bO exp new) 0 λ d=>.kO t.root bO d λ b =>
 if b=true then qE t d (.node d λ nd=>.load nd.status λ s=>oM t d s λ _=>K (s==1)) else K false
noncomputable def E5 (c index r:Int) (K:Int->Tr):Tr:=.node c λ nc=>.alloc (Za nc index r) c K
noncomputable def Lt (t:fY) (i c index:Int) (K:Int->Tr):Tr:=.node c λ nc=>jH t ((iR nc index).getD 0) λ m=>.node i λ ni=>.alloc (sO ni.gen) m λ j =>
 E5 c index j λ r=>kH t i c r λ ok=>K (if ok=true then j else 0)
noncomputable def vL (t:fY) (parent child:Int) (h:Nat) (level:Int) (K:Bool->Tr):Tr:=jH t parent λ m=>.node m λ nm =>
 if iR nm (eP h level)=some child then jH t child λ mc=>.node mc λ nmc =>
  if nmc.kind=5 then .alloc (zq nmc) 0 λ s=>.node m λ nm2=>.alloc (zj (Za nm2 (eP h level) s) level (zq nmc)) m λ r=>kH t parent m r K
  else K false
 else K false
def dL(f:Bool)(v:Int):Rs:=⟨0,f,v,⟨#[]⟩,0,0,0,false⟩
def nS(f:Bool)(v:Int):Rs:=⟨0,f,v,⟨#[]⟩,1,0,0,false⟩
noncomputable def pY (t:fY) (h:Nat) (key:ByteArray) (K:Rs->Tr):Nat->Int->Int->Tr
 | 0,_,_=>.stuck
 | n+1,i,level=>jH t i λ mr=>.node mr λ m =>
  if m.kind=5 then(if m.key=key then K (dL true m.val) else K (dL false 0))
  else if m.kind=6 then K (dL (cN m.ys key).isSome ((cN m.ys key).getD 0))
  else match iR m (eP h level) with
   | none=>K (dL false 0)
   | some b=>.node b λ s=>if s.kind=4 then(if s.key=key then K (dL true s.val) else K (dL false 0)) else pY t h key K n b (level+1)
def mM(c:Cl)(found:Bool)(v:Int):Bool:=if c.Ho=1 then !found else if c.Ho=2 then found else if c.Ho=3 then found&&v==c.exp else true
def Ax:List NI->Int->(Int->Tr)->Tr
 | [],r,K=>K r
 | a::l,_,K=>.alloc a.c0 a.init λ r=>Ax l r K
def dP(at_:Int)(h0 h:Nat)(p:Pr)(k:ByteArray)(u gen:Int)(fi lvl:Nat):List NI:=dN at_ h0 h p k u gen fi (kW h0 h-lvl) (kW h0 h-(kW h0 h-lvl))
def V6(c:Cl)(b:Int)(h:Nat)(level:Nat)(gen:Int)(K:Int->Tr):Tr:=.node b λ nb =>
 .alloc ((dP b nb.hash.toNat h (nb.key,nb.val) c.key c.val gen 0 level).headD NI.no).c0 ((dP b nb.hash.toNat h (nb.key,nb.val) c.key c.val gen 0 level).headD NI.no).init λ f =>
 Ax (dP b nb.hash.toNat h (nb.key,nb.val) c.key c.val gen f.toNat level).tail f K
noncomputable def jA (c:Cl) (i m:Int) (h:Nat) (level:Nat) (gen:Int) (K:Rs->Int->Tr):Tr:=.node m λ n =>
 if n.kind=6 then
  (if mM c (cN n.ys c.key).isSome ((cN n.ys c.key).getD 0)=true then
   .alloc (zm n c.key c.val) m λ r=>kH c.t i m r λ ok=>K (nS (cN n.ys c.key).isSome ((cN n.ys c.key).getD 0)) (if ok=true then 1 else 0)
  else K (dL (cN n.ys c.key).isSome ((cN n.ys c.key).getD 0)) 1)
 else match iR n (eP h level) with
  | none=>if mM c false 0=true then .alloc (xZ h c.key c.val) 0 λ s=>.alloc (ju n (eP h level) s) m λ r=>kH c.t i m r λ ok=>K (nS false 0) (if ok=true then 1 else 0) else K (dL false 0) 1
  | some b=>.node b λ nb=>if nb.kind=2 then K Rs.zero 2 else
   if nb.key=c.key then
    (if mM c true nb.val=true then .alloc (xZ h c.key c.val) 0 λ s=>E5 m (eP h level) s λ r=>kH c.t i m r λ ok=>K (nS true nb.val) (if ok=true then 1 else 0)
    else K (dL true nb.val) 1)
   else
    (if mM c false 0=true then V6 c b h (level+1) gen λ d=>.alloc (sO gen) d λ j=>E5 m (eP h level) j λ r=>kH c.t i m r λ ok=>K (nS false 0) (if ok=true then 1 else 0)
    else K (dL false 0) 1)
noncomputable def B6 (c:Cl) (i m index gen:Int) (K:Int->Tr):Tr:=.node m λ nm=>.node ((iR nm index).getD 0) λ nb=>if nb.gen=gen then K ((iR nm index).getD 0) else Lt c.t i m index K
noncomputable def rK (c:Cl) (h:Nat) (K:Rs->Tr) (again:Tr) (gen:Int):Nat->Int->Int->Nat->Tr
 | 0,_,_,_=>.stuck
 | n+1,i,parent,level=>jH c.t i λ m=>.node m λ nm =>
  if nm.kind=5 then vL c.t parent i h ((level:Int)-1) λ _=>again
  else jA c i m h level gen λ r what=>if what=1 then K r else if what=0 then again else
   B6 c i m (eP h level) gen λ b=>if b=0 then again else rK c h K again gen n b i (level+1)
noncomputable def yW (c:Cl) (h:Nat) (K:Rs->Tr):Nat->Tr
 | 0=>.stuck
 | n+1=>lI c.t λ i=>.node i λ ni=>rK c h K (yW c h K n) ni.gen n i 0 0
noncomputable def kE (c:Cl) (i m:Int) (h:Nat) (level:Nat) (K:Rs->Int->Tr):Tr:=.node m λ n =>
 if n.kind=6 then
  (if(cN n.ys c.key).isSome=false∨(c.only=true/\(cN n.ys c.key).getD 0≠c.exp) then K (dL (cN n.ys c.key).isSome ((cN n.ys c.key).getD 0)) 1
  else .alloc (r7 n c.key) m λ r=>kH c.t i m r λ ok=>K (nS true ((cN n.ys c.key).getD 0)) (if ok=true then 1 else 0))
 else match iR n (eP h level) with
  | none=>K (dL false 0) 1
  | some b=>.node b λ s=>if s.kind=2 then K Rs.zero 2 else if s.key≠c.key then K (dL false 0) 1 else if c.only=true/\s.val≠c.exp then K (dL true s.val) 1
   else .node ((Kx (Mq n (eP h level))).getD 0) λ so=>.alloc (zj (Mq n (eP h level)) level so) m λ r=>kH c.t i m r λ ok=>K (nS true s.val) (if ok=true then 1 else 0)
noncomputable def s9 (t:fY) (path:List Int) (h:Nat) (K:Tr):Nat->Tr
 | 0=>K
 | l+1=>jH t (path.getD (l+1) 0) λ m=>.node m λ nm=>if nm.kind=5 then vL t (path.getD l 0) (path.getD (l+1) 0) h (l:Int) λ _=>s9 t path h K l else K
noncomputable def uG (c:Cl) (h:Nat) (K:Rs->Tr) (again:Tr) (gen:Int):Nat->Int->List Int->Nat->Tr
 | 0,_,_,_=>.stuck
 | n+1,i,path,level=>jH c.t i λ m=>.node m λ nm =>
  if nm.kind=5 then vL c.t (path.getD (level-1) 0) i h ((level:Int)-1) λ _=>again
  else kE c i m h level λ r what=>if what=1 then(if r.fX=1 then s9 c.t path h (K r) (path.length-1) else K r) else if what=0 then again else
   B6 c i m (eP h level) gen λ b=>if b=0 then again else uG c h K again gen n b (path++[b]) (level+1)
noncomputable def vC (c:Cl) (h:Nat) (K:Rs->Tr):Nat->Tr
 | 0=>.stuck
 | n+1=>lI c.t λ i=>.node i λ ni=>uG c h K (vC c h K n) ni.gen n i [i] 0
def Oa(root:Int)(ro:Bool):Rs:=⟨0,true,0,⟨#[]⟩,0,0,root,ro⟩
def M6(m:Int)(K:Rs->Tr):Tr:=.gen λ g=>.alloc (sO g) m λ r=>.cell r λ c=>K (Oa c false)
def Jt(t:fY)(fz:Bool)(K:Rs->Tr):Nat->Tr
 | 0=>.stuck
 | n+1=>lI t λ r=>jH t r λ m=>.gen λ g=>.alloc (sO g) m λ j=>Bg t r m j λ ok =>
  if ok=true then(if fz=true then .cell r λ c=>K (Oa c true) else M6 m K) else Jt t fz K n
def sZ(t:fY)(fz:Bool)(K:Rs->Tr)(n:Nat):Tr :=
 if t.ro=true then .load t.root λ r=>if fz=true then .cell r λ c=>K (Oa c true) else jH t r λ m=>M6 m K
 else Jt t fz K n
def zA(t:fY)(K:Rs->Tr):Nat->Tr
 | 0=>.stuck
 | n+1=>lI t λ r=>jH t r λ m=>.alloc Kp 0 λ c=>.gen λ g=>.alloc (sO g) c λ j=>Bg t r m j λ ok =>
  if ok=true then K (dL true 0) else zA t K n
def Mh(r:Int)(f:Bool):Rs:=⟨0,f,0,⟨#[]⟩,0,r,0,false⟩
def refuse(c:Cl):Int:=if c.kind=7∨c.kind=9 then(if c.key.size<=64 then 0 else 1) else if c.kind=8 then(if c.key.size<=64/\0<=c.Ho/\c.Ho<=3 then 0 else 1) else 0
noncomputable def jY (c:Cl) (h:Nat) (n:Nat):Tr :=
 if refuse c≠0 then .done {Rs.zero with err:=refuse c}
 else if c.kind=1 then jH c.t c.a λ r=>.done (Mh r false)
 else if c.kind=2 then kH c.t c.a c.b c.n λ ok=>.done (Mh 0 ok)
 else if c.kind=3 then lI c.t λ r=>.done (Mh r false)
 else if c.kind=4 then Bg c.t c.a c.b c.n λ ok=>.done (Mh 0 ok)
 else if c.kind=7 then lI c.t λ i=>pY c.t h c.key .done n i 0
 else if c.kind=8 then yW c h .done n
 else if c.kind=9 then vC c h .done n
 else if c.kind=10 then sZ c.t false .done n
 else if c.kind=11 then sZ c.t true .done n
 else zA c.t .done n
end

/- Codes with a store: what they mean as trees. -/
end Go.Proofs.YtbajmaoegmbfgaaGreat
namespace Go.Ct
section
open Go Go.RowKit
structure AS where
 L:List aY
 cs:List Int
 gen:Int
 acc:Int
 pn:Option Addr
 cn:Nat
 pc:Option Addr
 cc:Nat
def AS.mm(a:AS):Mm:=⟨(cB a.L).map aY.c,a.cs,a.gen⟩
structure W1(s:Mm):Prop where
 nd:∀v∈s.nodes,mH s.nodes.length s.cs.length v
 cs:∀v∈s.cs,v<=s.nodes.length
 two:2<=s.nodes.length
structure AS.Ok(a:AS):Prop where
 fit:Fits a.L
 mo:W1 a.mm
structure Mm.Le(s s1:Mm):Prop where
 nodes:∃N,s1.nodes=s.nodes++N
 cl:s.cs.length<=s1.cs.length
def Mm.Small(s:Mm):Prop:=s.nodes.length<=137438953472/\s.cs.length<=137438953472
structure AS.gZ(a a':AS)(F:Fr):Prop where
 le:a.mm.Le a'.mm
 fam:∀f∈aM a'.L,f.2=[]∨f∈aM a.L∨f∈F
theorem Mm.Le.refl(s:Mm):s.Le s:=⟨⟨[],by simp⟩,Nat.le_refl _⟩
theorem Mm.Le.trans{s t u:Mm}(h:s.Le t)(h2:t.Le u):s.Le u:=by
 obtain⟨⟨N,e⟩,c⟩:=h
 obtain⟨⟨M,e2⟩,c2⟩:=h2
 exact⟨⟨N++M,by rw[e2,e,List.append_assoc]⟩,Nat.le_trans c c2⟩
theorem Mm.Le.len{s t:Mm}(h:s.Le t):s.nodes.length<=t.nodes.length:=by obtain⟨N,e⟩:=h.nodes;rw[e,List.length_append];omega
theorem Mm.Le.nd{s t:Mm}(h:s.Le t){r:Int}(hr:r<=s.nodes.length):eC t.nodes r=eC s.nodes r:=by obtain⟨N,e⟩:=h.nodes;rw[e];exact Gr hr
theorem AS.gZ.refl(a:AS):a.gZ a []:=⟨Mm.Le.refl _,λ f hf=>.inr (.inl hf)⟩
theorem AS.gZ.more{a a':AS}{F F':Fr}(h:a.gZ a' F)(hs:∀f∈F,f∈F'):a.gZ a' F':=⟨h.le,λ f hf=>(h.fam f hf).imp_right λ h=>h.imp_right λ h=>hs f h⟩
theorem AS.gZ.trans{a b c:AS}{F G:Fr}(h:a.gZ b F)(h2:b.gZ c G):a.gZ c (G++F):=⟨h.le.trans h2.le,λ f hf=>by
 rcases h2.fam f hf with h1|h1|h1
 ·exact .inl h1
 ·rcases h.fam f h1 with h1|h1|h1
  ·exact .inl h1
  ·exact .inr (.inl h1)
  ·exact .inr (.inr (List.mem_append_right _ h1))
 ·exact .inr (.inr (List.mem_append_left _ h1))⟩
theorem W1.at{s:Mm}(h:W1 s)(r:Int):mH s.nodes.length s.cs.length (eC s.nodes r):=by
 unfold eC
 split
 ·refine h.nd _ ?_
  rw[kP,List.getElem?_eq_getElem (by omega)]
  exact List.getElem_mem _
 ·exact N3 _ _
theorem W1.cell{s:Mm}(h:W1 s)(c:Int):cZ s.cs c<=s.nodes.length:=by
 unfold cZ
 split
 ·exact mC h.cs _
 ·exact bI _
theorem W1.kO{s:Mm}(h:W1 s){c o n:Int}(hn:n<=s.nodes.length):W1 ⟨s.nodes,eJ s.cs c o n,s.gen⟩:=by
 refine⟨λ v hv=>by simp only[gT];exact h.nd v hv,λ v hv=>?_,h.two⟩
 simp only[eJ] at hv
 split at hv
 ·rcases List.mem_or_eq_of_mem_set hv with hv|rfl
  ·exact h.cs v hv
  ·exact hn
 ·exact h.cs v hv
def fP:Tr->Mm->Tr×Mm
 | .alloc n i k,s=>fP (k ((s.nodes.length+1:Nat):Int)) (s.push n i)
 | .cell i k,s=>fP (k ((s.cs.length+1:Nat):Int)) ⟨s.nodes,s.cs++[i],s.gen⟩
 | .gen k,s=>fP (k (s.gen+1)) ⟨s.nodes,s.cs,s.gen+1⟩
 | .node r k,s=>fP (k (eC s.nodes r)) s
 | t,s=>(t,s)
def nxT:Tr->Mm->Tr×Mm
 | .load c k,s=>(k (cZ s.cs c),s)
 | .kO c o n k,s=>(k (jb s.cs c o),⟨s.nodes,eJ s.cs c o n,s.gen⟩)
 | t,s=>(t,s)
def xI(p:Tr×Mm):Tr×Mm:=fP (nxT p.1 p.2).1 (nxT p.1 p.2).2
def Tr.live:Tr->Bool
 | .done _=>false
 | _=>true
def mK(p:Tr×Mm):Nat->Tr×Mm
 | 0=>p
 | k+1=>xI (mK p k)
theorem aA7{t t':Tr}{s s':Mm}(h:Lp t s t' s'):nxT t s=(t',s')/\∀u,fP t u=(t,u):=by
 cases h with
 | load c k s=>exact⟨rfl,λ _=>rfl⟩
 | kO c o n k s b hb=>rw[Vb hb];exact⟨rfl,λ _=>rfl⟩
theorem fq{t t':Tr}{s s':Mm}(h:Sp t s t' s'):fP t s=fP t' s':=by
 cases h<;>rfl
theorem jj{j:Nat}{t t':Tr}{s s':Mm}(h:Rc j t s t' s'):(j=0->fP t s=fP t' s')/\(j=1->xI (fP t s)=fP t' s'):=by
 induction h with
 | refl t s=>exact⟨λ _=>rfl,λ h=>nomatch h⟩
 | fP _ hs ih=>exact⟨λ e=>(ih.1 e).trans (fq hs),λ e=>(ih.2 e).trans (fq hs)⟩
 | loud _ hs ih =>
  refine⟨(λ e=>nomatch e),λ e=>?_⟩
  obtain⟨h1,h2⟩:=aA7 hs
  rw[ih.1 (by omega),h2]
  unfold xI
  rw[h1]
theorem wX(p:Tr×Mm)(j:Nat):∀k,mK p (j+k)=mK (mK p j) k
 | 0=>rfl
 | k+1=>by show xI (mK p (j+k))=_;rw[wX p j k];rfl
end
end Go.Ct
namespace Go.Proofs.YtbajmaoegmbfgaaGreat
section
open Go Go.RowKit Go.Ct
theorem Ey{t:Tr}(h:dU t=true)(s:Mm):fP t s=(t,s):=by
 cases t<;>first|rfl|cases h
theorem fo{t t':Tr}{s s':Mm}(h:Rc 0 t s t' s')(ha:dU t'=true):fP t s=(t',s'):=by rw[(jj h).1 rfl,Ey ha]
theorem Zw{t t':Tr}{s s':Mm}(h:Rc 1 t s t' s')(h0:dU t=true)(ha:dU t'=true):xI (t,s)=(t',s'):=by rw[<- Ey h0 s,(jj h).2 rfl,Ey ha]
abbrev fA(a:AS):Obj:=aO a.L a.cs a.gen a.acc a.pn a.cn a.pc a.cc
abbrev fQ(a:AS):List Ow:=mW a.L a.cs a.pn a.cn a.pc a.cc
def zC(b:Nat)(R:Cd->Mm->Fr->Prop)(a:AS)(B:Fr)(D:List Nat)(w:World):Ending->World->Prop:=λ e w'=>∃y:Cd×Fr×AS,e=.returned (.agg ⟨y.1.cells⟩)/\(R y.1 y.2.2.mm (y.2.1++B)/\y.2.2.Ok/\a.gZ y.2.2 y.2.1)/\SF w D [(b,fA y.2.2)] [] y.2.1 (fQ y.2.2) w'
def Bf(b:Nat)(f:FuncId)(cap:List Value)(arg:List Value)(B:Fr)(s:Mm)(R:Cd->Mm->Fr->Prop):Prop :=
 ∀(a:AS) (D:List Nat) (A:Fr) (w:World),a.mm=s->a.Ok->s.Small->(∀f∈aM a.L,f∈A)->(∀f∈B,f∈A)->SF w D [(b,fA a)] A [] (fQ a) w->Calls Tryz.prog f ⟨arg++cap⟩ w (zC b R a B D w)
def iY(b:Nat):Tr->Mm->Cd->Mm->Fr->Prop
 | .done r,s,c,s2,_=>s2=s/\c=gP r
 | .load x k,s,c,s2,B=>s2=s/\x<=9223372036854775807/\∃f cap,c=mN x f cap/\plain Tryz.prog f=true/\∀(v:Int) (s1:Mm),s.Le s1->v<=s1.nodes.length->Bf b f cap [.int .i64 v] B s1 λ c' s' B'=>iY b (k v) s1 c' s' B'
 | .kO x o n k,s,c,s2,B=>s2=s/\x<=9223372036854775807/\n<=s.nodes.length/\∃f cap,c=vQ x o n f cap/\plain Tryz.prog f=true/\∀(v:Bool) (s1:Mm),s.Le s1->Bf b f cap [.bool v] B s1 λ c' s' B'=>iY b (k v) s1 c' s' B'
 | .alloc n i k,s,c,s2,B=>iY b (k ((s.nodes.length+1:Nat):Int)) (s.push n i) c s2 B
 | .cell i k,s,c,s2,B=>iY b (k ((s.cs.length+1:Nat):Int)) ⟨s.nodes,s.cs++[i],s.gen⟩ c s2 B
 | .gen k,s,c,s2,B=>iY b (k (s.gen+1)) ⟨s.nodes,s.cs,s.gen+1⟩ c s2 B
 | .node r k,s,c,s2,B=>r<=s.nodes.length/\iY b (k (eC s.nodes r)) s c s2 B
 | .stuck,_,_,_,_=>True
def zI(b:Nat)(K:Int->Tr)(s:Mm)(f:FuncId)(cap:List Value)(B:Fr):Prop:=plain Tryz.prog f=true/\∀(v:Int) (s1:Mm),s.Le s1->v<=s1.nodes.length->Bf b f cap [.int .i64 v] B s1 λ c' s' B'=>iY b (K v) s1 c' s' B'
def qb(b:Nat)(K:Bool->Tr)(s:Mm)(f:FuncId)(cap:List Value)(B:Fr):Prop:=plain Tryz.prog f=true/\∀(v:Bool) (s1:Mm),s.Le s1->Bf b f cap [.bool v] B s1 λ c' s' B'=>iY b (K v) s1 c' s' B'
def Xm(b:Nat)(t:Tr)(s:Mm)(f:FuncId)(cap:List Value)(B:Fr):Prop:=plain Tryz.prog f=true/\∀s1:Mm,s.Le s1->Bf b f cap [] B s1 λ c' s' B'=>iY b t s1 c' s' B'
section
variable{b:Nat}{f:FuncId}{cap arg:List Value}{B B2:Fr}{s s1 s2:Mm}{t:Tr}{c:Cd}
theorem Bf.more{R R2:Cd->Mm->Fr->Prop}(h:Bf b f cap arg B s R)(hb:∀x∈B,x∈B2)(hR:∀c m C C2,(∀x∈C,x∈C2)->R c m C->R2 c m C2):Bf b f cap arg B2 s R2:=λ a D A w e1 ok hs h1 h2 hw =>
 (h a D A w e1 ok hs h1 (λ x hx=>h2 x (hb x hx)) hw).mono λ e w' ⟨y,he,⟨hr,h3⟩,hs⟩=>⟨y,he,⟨hR _ _ _ _ (λ x hx=>by
  rcases List.mem_append.1 hx with h1|h1
  ·exact List.mem_append_left _ h1
  ·exact List.mem_append_right _ (hb x h1)) hr,h3⟩,hs⟩
theorem iY.more:∀{t:Tr} {s s2:Mm} {c:Cd} {B B2:Fr},iY b t s c s2 B->(∀x∈B,x∈B2)->iY b t s c s2 B2
 | .done _,_,_,_,_,_,h,_=>h
 | .load _ k,_,_,_,_,_,⟨h0,h1,f,cap,h2,h3,h4⟩,hb=>⟨h0,h1,f,cap,h2,h3,λ v s1 l hv=>(h4 v s1 l hv).more hb λ _ _ _ _ hC h=>iY.more (t:=k v) h hC⟩
 | .kO _ _ _ k,_,_,_,_,_,⟨h0,h1,hn,f,cap,h2,h3,h4⟩,hb=>⟨h0,h1,hn,f,cap,h2,h3,λ v s1 l=>(h4 v s1 l).more hb λ _ _ _ _ hC h=>iY.more (t:=k v) h hC⟩
 | .alloc n i k,s,_,_,_,_,h,hb=>iY.more (t:=k ((s.nodes.length+1:Nat):Int)) h hb
 | .cell i k,s,_,_,_,_,h,hb=>iY.more (t:=k ((s.cs.length+1:Nat):Int)) h hb
 | .gen k,s,_,_,_,_,h,hb=>iY.more (t:=k (s.gen+1)) h hb
 | .node r k,s,_,_,_,_,h,hb=>⟨h.1,iY.more (t:=k (eC s.nodes r)) h.2 hb⟩
 | .stuck,_,_,_,_,_,_,_=>trivial
theorem zI.more{K:Int->Tr}(h:zI b K s f cap B)(hb:∀x∈B,x∈B2):zI b K s f cap B2:=⟨h.1,λ v s1 l hv=>(h.2 v s1 l hv).more hb λ _ _ _ _ hC h=>iY.more h hC⟩
theorem qb.more{K:Bool->Tr}(h:qb b K s f cap B)(hb:∀x∈B,x∈B2):qb b K s f cap B2:=⟨h.1,λ v s1 l=>(h.2 v s1 l).more hb λ _ _ _ _ hC h=>iY.more h hC⟩
theorem Xm.more(h:Xm b t s f cap B)(hb:∀x∈B,x∈B2):Xm b t s f cap B2:=⟨h.1,λ s1 l=>(h.2 s1 l).more hb λ _ _ _ _ hC h=>iY.more h hC⟩
theorem zI.le{K:Int->Tr}(h:zI b K s f cap B)(l:s.Le s1):zI b K s1 f cap B:=⟨h.1,λ v s2 l2 hv=>h.2 v s2 (l.trans l2) hv⟩
theorem qb.le{K:Bool->Tr}(h:qb b K s f cap B)(l:s.Le s1):qb b K s1 f cap B:=⟨h.1,λ v s2 l2=>h.2 v s2 (l.trans l2)⟩
theorem Xm.le(h:Xm b t s f cap B)(l:s.Le s1):Xm b t s1 f cap B:=⟨h.1,λ s2 l2=>h.2 s2 (l.trans l2)⟩
theorem iY.kind(h:iY b t s c s2 B)(ha:dU t=true):(c.a.k=0↔t.live=false)/\(∀r,t=.done r->c.r=r)/\(∀x,t.acc=some x->c.a=x):=by
 cases t with
 | done r=>rw[h.2];exact⟨⟨λ _=>rfl,λ _=>rfl⟩,(λ r e=>by cases e;rfl),(λ x e=>nomatch e)⟩
 | load x k =>
  obtain⟨_,_,f,cap,e,_⟩:=h
  rw[e]
  exact⟨⟨λ h=>absurd h (show(1:Int)≠0 by decide),(λ h=>nomatch h)⟩,(λ r e=>nomatch e),λ x e=>by cases e;rfl⟩
 | kO x o n k =>
  obtain⟨_,_,_,f,cap,e,_⟩:=h
  rw[e]
  exact⟨⟨λ h=>absurd h (show(2:Int)≠0 by decide),(λ h=>nomatch h)⟩,(λ r e=>nomatch e),λ x e=>by cases e;rfl⟩
 | alloc n i k=>cases ha
 | cell i k=>cases ha
 | gen k=>cases ha
 | node r k=>cases ha
 | stuck=>cases ha
theorem iY.le(h:iY b t s c s2 B)(ha:dU t=true)(l:s.Le s1):iY b t s1 c s1 B:=by
 cases t with
 | done r=>exact⟨rfl,h.2⟩
 | load x k =>
  obtain⟨_,h1,f,cap,e,hp,hk⟩:=h
  exact⟨rfl,h1,f,cap,e,hp,λ v s3 l3 hv=>hk v s3 (l.trans l3) hv⟩
 | kO x o n k =>
  obtain⟨_,h1,hn,f,cap,e,hp,hk⟩:=h
  exact⟨rfl,h1,by have:=l.len;omega,f,cap,e,hp,λ v s3 l3=>hk v s3 (l.trans l3)⟩
 | alloc n i k=>cases ha
 | cell i k=>cases ha
 | gen k=>cases ha
 | node r k=>cases ha
 | stuck=>cases ha
theorem iY.fP:∀{t:Tr} {s s2:Mm} {c:Cd} {n m:Nat},bS t n m->iY b t s c s2 B->(fP t s).2=s2/\dU (fP t s).1=true/\iY b (fP t s).1 s2 c s2 B
 | .done _,_,_,_,_,_,_,h=>by obtain⟨rfl,h2⟩:=h;exact⟨rfl,rfl,rfl,h2⟩
 | .load _ k,_,_,_,_,_,_,h=>by obtain⟨rfl,h2⟩:=h;exact⟨rfl,rfl,rfl,h2⟩
 | .kO _ _ _ k,_,_,_,_,_,_,h=>by obtain⟨rfl,h2⟩:=h;exact⟨rfl,rfl,rfl,h2⟩
 | .alloc n i k,s,_,_,_,0,ht,h=>ht.elim
 | .alloc n i k,s,_,_,_,_+1,ht,h=>iY.fP (t:=k ((s.nodes.length+1:Nat):Int)) (ht _) h
 | .cell i k,s,_,_,_,0,ht,h=>ht.elim
 | .cell i k,s,_,_,_,_+1,ht,h=>iY.fP (t:=k ((s.cs.length+1:Nat):Int)) (ht _) h
 | .gen k,s,_,_,_,0,ht,h=>ht.elim
 | .gen k,s,_,_,_,_+1,ht,h=>iY.fP (t:=k (s.gen+1)) (ht _) h
 | .node r k,s,_,_,_,_,ht,h=>iY.fP (t:=k (eC s.nodes r)) (ht _) h.2
 | .stuck,_,_,_,_,_,ht,_=>ht.elim
end
section
variable{S:List (Nat×Value)}{w0 w:World}{M:List Nat}{H:List (Nat×Obj)}{A F:Fr}{O:List Ow}{ty:TypeId}{pos:String}{af:Array Edge}{gd:Option (Nat×Bool)}{X:Type}{V:X->Value}
theorem cMf{φ:X->Prop}{hs H':List (Nat×Obj)}{os O':List Ow}{hs' H1:X->List (Nat×Obj)}{os' O1:X->List Ow}{Fc F1:X->Fr}{A0:Fr}{is js:List Nat}{f:FuncId}{cap:List Value}{xs:List Operand}{at_:Array TypeId}{vs:List Value}{dst:Option Nat}{x:Operand}
  (hx:ev S x=.func (.func f) #[] ⟨cap⟩:=by exact rfl) (ha:oW S xs=vs:=by(repeat (first|exact cC _|(apply bU;focus ((conv=>{lhs;whnf});try exact rfl))));first|done|fail) (hp:plain Tryz.prog f=true)
  (hc:∀w,SF w (Ks hs os) hs A0 [] os w->Calls Tryz.prog f ⟨vs++cap⟩ w λ e w'=>∃x,e=.returned (V x)/\φ x/\SF w (Ks hs os) (hs' x) [] (Fc x) (os' x) w')
  (hH:lT H is hs H':=by(repeat (first|exact lT.nil|(apply lT.cons;(focus ((repeat (first|exact yD.head|apply yD.tail));done));simp only[pX])));first|done|fail)
  (hO:lT O js os O':=by(repeat (first|exact lT.nil|(apply lT.cons;(focus ((repeat (first|exact yD.head|apply yD.tail));done));simp only[pX])));first|done|fail)
  (hA:bA A F O' A0:=by exact bA.of (λ _ h=>Or.inr (Or.inl h)))
  (hl1:∀x,is.length=(hs' x).length:=by intro x;exact rfl) (hl2:∀x,js.length=(os' x).length:=by intro x;exact rfl)
  (hH1:∀x,iL is (hs' x) H'=H1 x:=by intro x;first|(simp only[iL,qV];exact rfl)|exact rfl) (hF1:∀x,Fc x++F=F1 x:=by intro x;first|(simp only[List.nil_append,List.cons_append];exact rfl)|exact rfl) (hO1:∀x,iL js (os' x) O'=O1 x:=by intro x;simp only[iL,qV,mW];exact rfl) :
  bF Tryz.prog S (SF w0 M H A F O) ⟨dst,.call {callee:=.value x,args:=⟨xs⟩,argTypes:=at_},ty,pos,af,gd⟩ X V (λ x w=>φ x/\SF w0 M (H1 x) A (F1 x) (O1 x) w) :=
 gB (q6 hx hp ha) λ w hw=>(hc w (hw.pR hH hO hA)).mono λ _ _ ⟨x,he,hx,hs⟩=>⟨x,he,hx,by
  have:=hw.vZ (hs':=hs' x) (Hc:=[]) (os':=os' x) (Oc:=[]) hH hO (by simpa using hs) (hl1 x) (hl2 x)
  rw[<- hH1 x,<- hF1 x,<- hO1 x]
  simpa using this⟩
end
end

end Go.Proofs.YtbajmaoegmbfgaaGreat
