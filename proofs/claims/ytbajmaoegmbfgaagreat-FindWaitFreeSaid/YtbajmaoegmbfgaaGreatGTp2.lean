/- The procedures with shared cells, as trees. -/
import Derived.Test.YtbajmaoegmbfgaaGreatGVw1
import Derived.Test.YtbajmaoegmbfgaaGreatGTr3
import Derived.Test.YtbajmaoegmbfgaaGreatGDfr
import Derived.Test.YtbajmaoegmbfgaaGreatGAr5

set_option linter.unusedSimpArgs false
set_option linter.unusedVariables false
namespace Go.Ct
section
def NI.c0(a:NI):Nv:=a.n.c a.xs a.ys
end
end Go.Ct
namespace Go.Proofs.YtbajmaoegmbfgaaGreat
section
open Go.RowKit Go.Ct
structure fL where
 root:Int
 ro:Bool
structure Cl where
 kind:Int
 t:fL
 a:Int
 b:Int
 n:Int
 index:Int
 hash:Int
 mask:Int
 key:ByteArray
 val:Int
 exp:Int
 Io:Int
 only:Bool
def eO(h:Nat)(level:Int):Int:=if level<0∨10<level then 0 else(sl h level.toNat:Int)
def yK(p:Int):Nv:=({Nd.zero with kind:=7,bN:=p}:Nd).c [] []
def sG(g:Int):Nv:=({Nd.zero with kind:=2,gen:=g}:Nd).c [] []
def Dx(a b c:Int):Nv:=({Nd.zero with kind:=8,bN:=a,exp:=b,new:=c}:Nd).c [] []
def yJ(h:Int)(k:ByteArray)(u:Int):Nv:=({Nd.zero with kind:=4,hash:=h,key:=k,val:=u}:Nd).c [] []
def K3:Nv:=({Nd.zero with kind:=3}:Nd).c [] []
def y7(v s:Int)(K:Int->Tr):Tr:=.node v λ n=>K (if s=1 then n.new else n.bN)
def oG(t:fL)(v s:Int)(K:Int->Tr):Tr:=y7 v s λ w=>.jN t.root v w λ _=>K w
def tU(t:fL)(K:Int->Tr):Tr:=.load t.root λ v=>.node v λ n=>if n.kind=2 then K v else .node v λ n=>.load n.status λ s =>
 if s=0 then .node v λ n=>.jN n.status 0 2 λ _=>.node v λ n=>.load n.status λ s=>oG t v s K else oG t v s K
def H5(i m p:Int)(K:Int->Tr):Tr:=.node i λ ni=>.node p λ np=>.jN ni.main m np.bN λ _=>.node p λ np=>K np.bN
def jG(i m:Int)(K:Int->Tr):Tr:=.node m λ nm=>.load nm.prev λ p=>if p=0 then K m else H5 i m p K
def jC(i m p:Int)(c:Bool)(K:Int->Tr):Tr :=
 if c=true then .node m λ nm=>.jN nm.prev p 0 λ _=>jG i m K
 else .node m λ nm=>.alloc (yK p) 0 λ f=>.jN nm.prev p f λ _=>jG i m K
def nM(t:fL)(i m:Int)(K:Int->Tr):Tr:=.node m λ nm=>.load nm.prev λ p=>if p=0 then K m else .node p λ np =>
 if dS np then(if t.ro=true then jC i m p false K else tU t λ r=>.node r λ nr=>.node i λ ni=>jC i m p (nr.gen==ni.gen) K)
 else H5 i m p K
def jE(t:fL)(i:Int)(K:Int->Tr):Tr:=.node i λ ni=>.load ni.main λ m=>nM t i m K
def pB(t:fL)(v:Int)(K:Tr):Tr:=.node v λ n=>jE t n.bN λ r=>.node v λ n2=>.node v λ n3=>.jN n3.status 0 (if r=n2.exp then 1 else 2) λ _=>K
def kT(t:fL)(K:Int->Tr):Tr:=.load t.root λ v=>.node v λ n=>if n.kind=2 then K v else .node v λ n=>.load n.status λ s =>
 if s=0 then pB t v (.node v λ n=>.load n.status λ s=>oG t v s K) else oG t v s K
def kN(t:fL)(i bN n:Int)(K:Bool->Tr):Tr:=.node i λ ni=>.jN ni.main bN n λ b=>if b=true then nM t i n λ m=>K (m==n) else K false
def Bo(t:fL)(bN exp new:Int)(K:Bool->Tr):Tr:=.alloc (Dx bN exp new) 0 λ d=>.jN t.root bN d λ b =>
 if b=true then pB t d (.node d λ nd=>.load nd.status λ s=>oG t d s λ _=>K (s==1)) else K false
noncomputable def He (c index r:Int) (K:Int->Tr):Tr:=.node c λ nc=>.alloc (me nc index r) c K
noncomputable def Lk (t:fL) (i c index:Int) (K:Int->Tr):Tr:=.node c λ nc=>jE t ((iU nc index).getD 0) λ m=>.node i λ ni=>.alloc (sG ni.gen) m λ j =>
 He c index j λ r=>kN t i c r λ ok=>K (if ok=true then j else 0)
noncomputable def uT (t:fL) (parent child:Int) (h:Nat) (level:Int) (K:Bool->Tr):Tr:=jE t parent λ m=>.node m λ nm =>
 if iU nm (eO h level)=some child then jE t child λ mc=>.node mc λ nmc =>
  if nmc.kind=5 then .alloc (unV nmc) 0 λ s=>.node m λ nm2=>.alloc (coV (me nm2 (eO h level) s) level (unV nmc)) m λ r=>kN t parent m r K
  else K false
 else K false
def dO(f:Bool)(v:Int):Rs:=⟨0,f,v,⟨#[]⟩,0,0,0,false⟩
def oA(f:Bool)(v:Int):Rs:=⟨0,f,v,⟨#[]⟩,1,0,0,false⟩
noncomputable def qF (t:fL) (h:Nat) (key:ByteArray) (K:Rs->Tr):Nat->Int->Int->Tr
 | 0,_,_=>.stuck
 | n+1,i,level=>jE t i λ mr=>.node mr λ m =>
  if m.kind=5 then(if m.key=key then K (dO true m.val) else K (dO false 0))
  else if m.kind=6 then K (dO (cO m.ys key).isSome ((cO m.ys key).getD 0))
  else match iU m (eO h level) with
   | none=>K (dO false 0)
   | some b=>.node b λ s=>if s.kind=4 then(if s.key=key then K (dO true s.val) else K (dO false 0)) else qF t h key K n b (level+1)
def mP(c:Cl)(found:Bool)(v:Int):Bool:=if c.Io=1 then !found else if c.Io=2 then found else if c.Io=3 then found&&v==c.exp else true
def zZ:List NI->Int->(Int->Tr)->Tr
 | [],r,K=>K r
 | a::l,_,K=>.alloc a.c0 a.init λ r=>zZ l r K
def dP(at_:Int)(h0 h:Nat)(p:Pr)(k:ByteArray)(u gen:Int)(fi lvl:Nat):List NI:=dN at_ h0 h p k u gen fi (kZ h0 h-lvl) (kZ h0 h-(kZ h0 h-lvl))
def Up(c:Cl)(b:Int)(h:Nat)(level:Nat)(gen:Int)(K:Int->Tr):Tr:=.node b λ nb =>
 .alloc ((dP b nb.hash.toNat h (nb.key,nb.val) c.key c.val gen 0 level).headD NI.no).c0 ((dP b nb.hash.toNat h (nb.key,nb.val) c.key c.val gen 0 level).headD NI.no).init λ f =>
 zZ (dP b nb.hash.toNat h (nb.key,nb.val) c.key c.val gen f.toNat level).tail f K
noncomputable def jH (c:Cl) (i m:Int) (h:Nat) (level:Nat) (gen:Int) (K:Rs->Int->Tr):Tr:=.node m λ n =>
 if n.kind=6 then
  (if mP c (cO n.ys c.key).isSome ((cO n.ys c.key).getD 0)=true then
   .alloc (grV n c.key c.val) m λ r=>kN c.t i m r λ ok=>K (oA (cO n.ys c.key).isSome ((cO n.ys c.key).getD 0)) (if ok=true then 1 else 0)
  else K (dO (cO n.ys c.key).isSome ((cO n.ys c.key).getD 0)) 1)
 else match iU n (eO h level) with
  | none=>if mP c false 0=true then .alloc (yJ h c.key c.val) 0 λ s=>.alloc (Z6 n (eO h level) s) m λ r=>kN c.t i m r λ ok=>K (oA false 0) (if ok=true then 1 else 0) else K (dO false 0) 1
  | some b=>.node b λ nb=>if nb.kind=2 then K Rs.zero 2 else
   if nb.key=c.key then
    (if mP c true nb.val=true then .alloc (yJ h c.key c.val) 0 λ s=>He m (eO h level) s λ r=>kN c.t i m r λ ok=>K (oA true nb.val) (if ok=true then 1 else 0)
    else K (dO true nb.val) 1)
   else
    (if mP c false 0=true then Up c b h (level+1) gen λ d=>.alloc (sG gen) d λ j=>He m (eO h level) j λ r=>kN c.t i m r λ ok=>K (oA false 0) (if ok=true then 1 else 0)
    else K (dO false 0) 1)
noncomputable def C1 (c:Cl) (i m index gen:Int) (K:Int->Tr):Tr:=.node m λ nm=>.node ((iU nm index).getD 0) λ nb=>if nb.gen=gen then K ((iU nm index).getD 0) else Lk c.t i m index K
noncomputable def rW (c:Cl) (h:Nat) (K:Rs->Tr) (again:Tr) (gen:Int):Nat->Int->Int->Nat->Tr
 | 0,_,_,_=>.stuck
 | n+1,i,parent,level=>jE c.t i λ m=>.node m λ nm =>
  if nm.kind=5 then uT c.t parent i h ((level:Int)-1) λ _=>again
  else jH c i m h level gen λ r what=>if what=1 then K r else if what=0 then again else
   C1 c i m (eO h level) gen λ b=>if b=0 then again else rW c h K again gen n b i (level+1)
noncomputable def zC (c:Cl) (h:Nat) (K:Rs->Tr):Nat->Tr
 | 0=>.stuck
 | n+1=>kT c.t λ i=>.node i λ ni=>rW c h K (zC c h K n) ni.gen n i 0 0
noncomputable def kI (c:Cl) (i m:Int) (h:Nat) (level:Nat) (K:Rs->Int->Tr):Tr:=.node m λ n =>
 if n.kind=6 then
  (if(cO n.ys c.key).isSome=false∨(c.only=true/\(cO n.ys c.key).getD 0≠c.exp) then K (dO (cO n.ys c.key).isSome ((cO n.ys c.key).getD 0)) 1
  else .alloc (tj n c.key) m λ r=>kN c.t i m r λ ok=>K (oA true ((cO n.ys c.key).getD 0)) (if ok=true then 1 else 0))
 else match iU n (eO h level) with
  | none=>K (dO false 0) 1
  | some b=>.node b λ s=>if s.kind=2 then K Rs.zero 2 else if s.key≠c.key then K (dO false 0) 1 else if c.only=true/\s.val≠c.exp then K (dO true s.val) 1
   else .node ((Lo (Nb n (eO h level))).getD 0) λ so=>.alloc (coV (Nb n (eO h level)) level so) m λ r=>kN c.t i m r λ ok=>K (oA true s.val) (if ok=true then 1 else 0)
noncomputable def ug (t:fL) (path:List Int) (h:Nat) (K:Tr):Nat->Tr
 | 0=>K
 | l+1=>jE t (path.getD (l+1) 0) λ m=>.node m λ nm=>if nm.kind=5 then uT t (path.getD l 0) (path.getD (l+1) 0) h (l:Int) λ _=>ug t path h K l else K
noncomputable def vW (c:Cl) (h:Nat) (K:Rs->Tr) (again:Tr) (gen:Int):Nat->Int->List Int->Nat->Tr
 | 0,_,_,_=>.stuck
 | n+1,i,path,level=>jE c.t i λ m=>.node m λ nm =>
  if nm.kind=5 then uT c.t (path.getD (level-1) 0) i h ((level:Int)-1) λ _=>again
  else kI c i m h level λ r what=>if what=1 then(if r.fZ=1 then ug c.t path h (K r) (path.length-1) else K r) else if what=0 then again else
   C1 c i m (eO h level) gen λ b=>if b=0 then again else vW c h K again gen n b (path++[b]) (level+1)
noncomputable def uX (c:Cl) (h:Nat) (K:Rs->Tr):Nat->Tr
 | 0=>.stuck
 | n+1=>kT c.t λ i=>.node i λ ni=>vW c h K (uX c h K n) ni.gen n i [i] 0
def Ou(root:Int)(ro:Bool):Rs:=⟨0,true,0,⟨#[]⟩,0,0,root,ro⟩
def Pu(m:Int)(K:Rs->Tr):Tr:=.gen λ g=>.alloc (sG g) m λ r=>.cell r λ c=>K (Ou c false)
def Km(t:fL)(fz:Bool)(K:Rs->Tr):Nat->Tr
 | 0=>.stuck
 | n+1=>kT t λ r=>jE t r λ m=>.gen λ g=>.alloc (sG g) m λ j=>Bo t r m j λ ok =>
  if ok=true then(if fz=true then .cell r λ c=>K (Ou c true) else Pu m K) else Km t fz K n
def tK(t:fL)(fz:Bool)(K:Rs->Tr)(n:Nat):Tr :=
 if t.ro=true then .load t.root λ r=>if fz=true then .cell r λ c=>K (Ou c true) else jE t r λ m=>Pu m K
 else Km t fz K n
def zP(t:fL)(K:Rs->Tr):Nat->Tr
 | 0=>.stuck
 | n+1=>kT t λ r=>jE t r λ m=>.alloc K3 0 λ c=>.gen λ g=>.alloc (sG g) c λ j=>Bo t r m j λ ok =>
  if ok=true then K (dO true 0) else zP t K n
def Lg(r:Int)(f:Bool):Rs:=⟨0,f,0,⟨#[]⟩,0,r,0,false⟩
def refuse(c:Cl):Int:=if c.kind=7∨c.kind=9 then(if c.key.size<=64 then 0 else 1) else if c.kind=8 then(if c.key.size<=64/\0<=c.Io/\c.Io<=3 then 0 else 1) else 0
noncomputable def jT (c:Cl) (h:Nat) (n:Nat):Tr :=
 if refuse c≠0 then .done {Rs.zero with err:=refuse c}
 else if c.kind=1 then jE c.t c.a λ r=>.done (Lg r false)
 else if c.kind=2 then kN c.t c.a c.b c.n λ ok=>.done (Lg 0 ok)
 else if c.kind=3 then kT c.t λ r=>.done (Lg r false)
 else if c.kind=4 then Bo c.t c.a c.b c.n λ ok=>.done (Lg 0 ok)
 else if c.kind=7 then kT c.t λ i=>qF c.t h c.key .done n i 0
 else if c.kind=8 then zC c h .done n
 else if c.kind=9 then uX c h .done n
 else if c.kind=10 then tK c.t false .done n
 else if c.kind=11 then tK c.t true .done n
 else zP c.t .done n
end

/- Codes with a store: what they mean as trees. -/
end Go.Proofs.YtbajmaoegmbfgaaGreat
namespace Go.Ct
section
open Go Go.RowKit
structure AS where
 L:List aZ
 cs:List Int
 gen:Int
 acc:Int
 pn:Option Addr
 cn:Nat
 pc:Option Addr
 cc:Nat
def AS.mm(a:AS):Mm:=⟨(cB a.L).map aZ.c,a.cs,a.gen⟩
structure Xg(s:Mm):Prop where
 nd:∀v∈s.nodes,mK s.nodes.length s.cs.length v
 cs:∀v∈s.cs,v<=s.nodes.length
 two:2<=s.nodes.length
structure AS.Ok(a:AS):Prop where
 fit:Fits a.L
 mo:Xg a.mm
structure Mm.Le(s s1:Mm):Prop where
 nodes:∃N,s1.nodes=s.nodes++N
 cl:s.cs.length<=s1.cs.length
def Mm.Small(s:Mm):Prop:=s.nodes.length<=137438953472/\s.cs.length<=137438953472
structure AS.hU(a a':AS)(F:Fr):Prop where
 le:a.mm.Le a'.mm
 fam:∀f∈aM a'.L,f.2=[]∨f∈aM a.L∨f∈F
theorem Mm.Le.refl(s:Mm):s.Le s:=⟨⟨[],by simp⟩,Nat.le_refl _⟩
theorem Mm.Le.trans{s t u:Mm}(h:s.Le t)(h2:t.Le u):s.Le u:=by
 obtain⟨⟨N,e⟩,c⟩:=h
 obtain⟨⟨M,e2⟩,c2⟩:=h2
 exact⟨⟨N++M,by rw[e2,e,List.append_assoc]⟩,Nat.le_trans c c2⟩
theorem Mm.Le.len{s t:Mm}(h:s.Le t):s.nodes.length<=t.nodes.length:=by obtain⟨N,e⟩:=h.nodes;rw[e,List.length_append];omega
theorem Mm.Le.nd{s t:Mm}(h:s.Le t){r:Int}(hr:r<=s.nodes.length):eA t.nodes r=eA s.nodes r:=by obtain⟨N,e⟩:=h.nodes;rw[e];exact Fe hr
theorem AS.hU.refl(a:AS):a.hU a []:=⟨Mm.Le.refl _,λ f hf=>.inr (.inl hf)⟩
theorem AS.hU.more{a a':AS}{F F':Fr}(h:a.hU a' F)(hs:∀f∈F,f∈F'):a.hU a' F':=⟨h.le,λ f hf=>(h.fam f hf).imp_right λ h=>h.imp_right λ h=>hs f h⟩
theorem AS.hU.trans{a b c:AS}{F G:Fr}(h:a.hU b F)(h2:b.hU c G):a.hU c (G++F):=⟨h.le.trans h2.le,λ f hf=>by
 rcases h2.fam f hf with h1|h1|h1
 ·exact .inl h1
 ·rcases h.fam f h1 with h1|h1|h1
  ·exact .inl h1
  ·exact .inr (.inl h1)
  ·exact .inr (.inr (List.mem_append_right _ h1))
 ·exact .inr (.inr (List.mem_append_left _ h1))⟩
theorem Xg.at{s:Mm}(h:Xg s)(r:Int):mK s.nodes.length s.cs.length (eA s.nodes r):=by
 unfold eA
 split
 ·refine h.nd _ ?_
  rw[kQ,List.getElem?_eq_getElem (by omega)]
  exact List.getElem_mem _
 ·exact Py _ _
theorem Xg.cell{s:Mm}(h:Xg s)(c:Int):cS s.cs c<=s.nodes.length:=by
 unfold cS
 split
 ·exact mB h.cs _
 ·exact bH _
theorem Xg.jN{s:Mm}(h:Xg s){c o n:Int}(hn:n<=s.nodes.length):Xg ⟨s.nodes,eD s.cs c o n,s.gen⟩:=by
 refine⟨λ v hv=>by simp only[gT];exact h.nd v hv,λ v hv=>?_,h.two⟩
 simp only[eD] at hv
 split at hv
 ·rcases List.mem_or_eq_of_mem_set hv with hv|rfl
  ·exact h.cs v hv
  ·exact hn
 ·exact h.cs v hv
def eV:Tr->Mm->Tr×Mm
 | .alloc n i k,s=>eV (k ((s.nodes.length+1:Nat):Int)) (s.push n i)
 | .cell i k,s=>eV (k ((s.cs.length+1:Nat):Int)) ⟨s.nodes,s.cs++[i],s.gen⟩
 | .gen k,s=>eV (k (s.gen+1)) ⟨s.nodes,s.cs,s.gen+1⟩
 | .node r k,s=>eV (k (eA s.nodes r)) s
 | t,s=>(t,s)
def nxT:Tr->Mm->Tr×Mm
 | .load c k,s=>(k (cS s.cs c),s)
 | .jN c o n k,s=>(k (Bs s.cs c o),⟨s.nodes,eD s.cs c o n,s.gen⟩)
 | t,s=>(t,s)
def tS(p:Tr×Mm):Tr×Mm:=eV (nxT p.1 p.2).1 (nxT p.1 p.2).2
def Tr.live:Tr->Bool
 | .done _=>false
 | _=>true
def mN(p:Tr×Mm):Nat->Tr×Mm
 | 0=>p
 | k+1=>tS (mN p k)
theorem aAy{t t':Tr}{s s':Mm}(h:Lp t s t' s'):nxT t s=(t',s')/\∀u,eV t u=(t,u):=by
 cases h with
 | load c k s=>exact⟨rfl,λ _=>rfl⟩
 | jN c o n k s b hb=>rw[Es hb];exact⟨rfl,λ _=>rfl⟩
theorem li{t t':Tr}{s s':Mm}(h:Sp t s t' s'):eV t s=eV t' s':=by
 cases h<;>rfl
theorem dh{j:Nat}{t t':Tr}{s s':Mm}(h:Rc j t s t' s'):(j=0->eV t s=eV t' s')/\(j=1->tS (eV t s)=eV t' s'):=by
 induction h with
 | refl t s=>exact⟨λ _=>rfl,λ h=>nomatch h⟩
 | eV _ hs ih=>exact⟨λ e=>(ih.1 e).trans (li hs),λ e=>(ih.2 e).trans (li hs)⟩
 | loud _ hs ih =>
  refine⟨(λ e=>nomatch e),λ e=>?_⟩
  obtain⟨h1,h2⟩:=aAy hs
  rw[ih.1 (by omega),h2]
  unfold tS
  rw[h1]
theorem xL(p:Tr×Mm)(j:Nat):∀k,mN p (j+k)=mN (mN p j) k
 | 0=>rfl
 | k+1=>by show tS (mN p (j+k))=_;rw[xL p j k];rfl
end
end Go.Ct
namespace Go.Proofs.YtbajmaoegmbfgaaGreat
section
open Go Go.RowKit Go.Ct
theorem G6{t:Tr}(h:dG t=true)(s:Mm):eV t s=(t,s):=by
 cases t<;>first|rfl|cases h
theorem ee{t t':Tr}{s s':Mm}(h:Rc 0 t s t' s')(ha:dG t'=true):eV t s=(t',s'):=by rw[(dh h).1 rfl,G6 ha]
theorem cr{t t':Tr}{s s':Mm}(h:Rc 1 t s t' s')(h0:dG t=true)(ha:dG t'=true):tS (t,s)=(t',s'):=by rw[<- G6 h0 s,(dh h).2 rfl,G6 ha]
abbrev eX(a:AS):Obj:=aO a.L a.cs a.gen a.acc a.pn a.cn a.pc a.cc
abbrev fU(a:AS):List Ow:=mW a.L a.cs a.pn a.cn a.pc a.cc
def zK(b:Nat)(R:Cd->Mm->Fr->Prop)(a:AS)(B:Fr)(D:List Nat)(w:World):Ending->World->Prop:=λ e w'=>∃y:Cd×Fr×AS,e=.returned (.agg ⟨y.1.cells⟩)/\(R y.1 y.2.2.mm (y.2.1++B)/\y.2.2.Ok/\a.hU y.2.2 y.2.1)/\SF w D [(b,eX y.2.2)] [] y.2.1 (fU y.2.2) w'
def Ce(b:Nat)(f:FuncId)(cap:List Value)(arg:List Value)(B:Fr)(s:Mm)(R:Cd->Mm->Fr->Prop):Prop :=
 ∀(a:AS) (D:List Nat) (A:Fr) (w:World),a.mm=s->a.Ok->s.Small->(∀f∈aM a.L,f∈A)->(∀f∈B,f∈A)->SF w D [(b,eX a)] A [] (fU a) w->Calls Tryz.prog f ⟨arg++cap⟩ w (zK b R a B D w)
def jB(b:Nat):Tr->Mm->Cd->Mm->Fr->Prop
 | .done r,s,c,s2,_=>s2=s/\c=gQ r
 | .load x k,s,c,s2,B=>s2=s/\x<=9223372036854775807/\∃f cap,c=mY x f cap/\plain Tryz.prog f=true/\∀(v:Int) (s1:Mm),s.Le s1->v<=s1.nodes.length->Ce b f cap [.int .i64 v] B s1 λ c' s' B'=>jB b (k v) s1 c' s' B'
 | .jN x o n k,s,c,s2,B=>s2=s/\x<=9223372036854775807/\n<=s.nodes.length/\∃f cap,c=vY x o n f cap/\plain Tryz.prog f=true/\∀(v:Bool) (s1:Mm),s.Le s1->Ce b f cap [.bool v] B s1 λ c' s' B'=>jB b (k v) s1 c' s' B'
 | .alloc n i k,s,c,s2,B=>jB b (k ((s.nodes.length+1:Nat):Int)) (s.push n i) c s2 B
 | .cell i k,s,c,s2,B=>jB b (k ((s.cs.length+1:Nat):Int)) ⟨s.nodes,s.cs++[i],s.gen⟩ c s2 B
 | .gen k,s,c,s2,B=>jB b (k (s.gen+1)) ⟨s.nodes,s.cs,s.gen+1⟩ c s2 B
 | .node r k,s,c,s2,B=>r<=s.nodes.length/\jB b (k (eA s.nodes r)) s c s2 B
 | .stuck,_,_,_,_=>True
def zS(b:Nat)(K:Int->Tr)(s:Mm)(f:FuncId)(cap:List Value)(B:Fr):Prop:=plain Tryz.prog f=true/\∀(v:Int) (s1:Mm),s.Le s1->v<=s1.nodes.length->Ce b f cap [.int .i64 v] B s1 λ c' s' B'=>jB b (K v) s1 c' s' B'
def q8(b:Nat)(K:Bool->Tr)(s:Mm)(f:FuncId)(cap:List Value)(B:Fr):Prop:=plain Tryz.prog f=true/\∀(v:Bool) (s1:Mm),s.Le s1->Ce b f cap [.bool v] B s1 λ c' s' B'=>jB b (K v) s1 c' s' B'
def Za(b:Nat)(t:Tr)(s:Mm)(f:FuncId)(cap:List Value)(B:Fr):Prop:=plain Tryz.prog f=true/\∀s1:Mm,s.Le s1->Ce b f cap [] B s1 λ c' s' B'=>jB b t s1 c' s' B'
section
variable{b:Nat}{f:FuncId}{cap arg:List Value}{B B2:Fr}{s s1 s2:Mm}{t:Tr}{c:Cd}
theorem Ce.more{R R2:Cd->Mm->Fr->Prop}(h:Ce b f cap arg B s R)(hb:∀x∈B,x∈B2)(hR:∀c m C C2,(∀x∈C,x∈C2)->R c m C->R2 c m C2):Ce b f cap arg B2 s R2:=λ a D A w e1 ok hs h1 h2 hw =>
 (h a D A w e1 ok hs h1 (λ x hx=>h2 x (hb x hx)) hw).mono λ e w' ⟨y,he,⟨hr,h3⟩,hs⟩=>⟨y,he,⟨hR _ _ _ _ (λ x hx=>by
  rcases List.mem_append.1 hx with h1|h1
  ·exact List.mem_append_left _ h1
  ·exact List.mem_append_right _ (hb x h1)) hr,h3⟩,hs⟩
theorem jB.more:∀{t:Tr} {s s2:Mm} {c:Cd} {B B2:Fr},jB b t s c s2 B->(∀x∈B,x∈B2)->jB b t s c s2 B2
 | .done _,_,_,_,_,_,h,_=>h
 | .load _ k,_,_,_,_,_,⟨h0,h1,f,cap,h2,h3,h4⟩,hb=>⟨h0,h1,f,cap,h2,h3,λ v s1 l hv=>(h4 v s1 l hv).more hb λ _ _ _ _ hC h=>jB.more (t:=k v) h hC⟩
 | .jN _ _ _ k,_,_,_,_,_,⟨h0,h1,hn,f,cap,h2,h3,h4⟩,hb=>⟨h0,h1,hn,f,cap,h2,h3,λ v s1 l=>(h4 v s1 l).more hb λ _ _ _ _ hC h=>jB.more (t:=k v) h hC⟩
 | .alloc n i k,s,_,_,_,_,h,hb=>jB.more (t:=k ((s.nodes.length+1:Nat):Int)) h hb
 | .cell i k,s,_,_,_,_,h,hb=>jB.more (t:=k ((s.cs.length+1:Nat):Int)) h hb
 | .gen k,s,_,_,_,_,h,hb=>jB.more (t:=k (s.gen+1)) h hb
 | .node r k,s,_,_,_,_,h,hb=>⟨h.1,jB.more (t:=k (eA s.nodes r)) h.2 hb⟩
 | .stuck,_,_,_,_,_,_,_=>trivial
theorem zS.more{K:Int->Tr}(h:zS b K s f cap B)(hb:∀x∈B,x∈B2):zS b K s f cap B2:=⟨h.1,λ v s1 l hv=>(h.2 v s1 l hv).more hb λ _ _ _ _ hC h=>jB.more h hC⟩
theorem q8.more{K:Bool->Tr}(h:q8 b K s f cap B)(hb:∀x∈B,x∈B2):q8 b K s f cap B2:=⟨h.1,λ v s1 l=>(h.2 v s1 l).more hb λ _ _ _ _ hC h=>jB.more h hC⟩
theorem Za.more(h:Za b t s f cap B)(hb:∀x∈B,x∈B2):Za b t s f cap B2:=⟨h.1,λ s1 l=>(h.2 s1 l).more hb λ _ _ _ _ hC h=>jB.more h hC⟩
theorem zS.le{K:Int->Tr}(h:zS b K s f cap B)(l:s.Le s1):zS b K s1 f cap B:=⟨h.1,λ v s2 l2 hv=>h.2 v s2 (l.trans l2) hv⟩
theorem q8.le{K:Bool->Tr}(h:q8 b K s f cap B)(l:s.Le s1):q8 b K s1 f cap B:=⟨h.1,λ v s2 l2=>h.2 v s2 (l.trans l2)⟩
theorem Za.le(h:Za b t s f cap B)(l:s.Le s1):Za b t s1 f cap B:=⟨h.1,λ s2 l2=>h.2 s2 (l.trans l2)⟩
theorem jB.kind(h:jB b t s c s2 B)(ha:dG t=true):(c.a.k=0↔t.live=false)/\(∀r,t=.done r->c.r=r)/\(∀x,t.acc=some x->c.a=x):=by
 cases t with
 | done r=>rw[h.2];exact⟨⟨λ _=>rfl,λ _=>rfl⟩,(λ r e=>by cases e;rfl),(λ x e=>nomatch e)⟩
 | load x k =>
  obtain⟨_,_,f,cap,e,_⟩:=h
  rw[e]
  exact⟨⟨λ h=>absurd h (show(1:Int)≠0 by decide),(λ h=>nomatch h)⟩,(λ r e=>nomatch e),λ x e=>by cases e;rfl⟩
 | jN x o n k =>
  obtain⟨_,_,_,f,cap,e,_⟩:=h
  rw[e]
  exact⟨⟨λ h=>absurd h (show(2:Int)≠0 by decide),(λ h=>nomatch h)⟩,(λ r e=>nomatch e),λ x e=>by cases e;rfl⟩
 | alloc n i k=>cases ha
 | cell i k=>cases ha
 | gen k=>cases ha
 | node r k=>cases ha
 | stuck=>cases ha
theorem jB.le(h:jB b t s c s2 B)(ha:dG t=true)(l:s.Le s1):jB b t s1 c s1 B:=by
 cases t with
 | done r=>exact⟨rfl,h.2⟩
 | load x k =>
  obtain⟨_,h1,f,cap,e,hp,hk⟩:=h
  exact⟨rfl,h1,f,cap,e,hp,λ v s3 l3 hv=>hk v s3 (l.trans l3) hv⟩
 | jN x o n k =>
  obtain⟨_,h1,hn,f,cap,e,hp,hk⟩:=h
  exact⟨rfl,h1,by have:=l.len;omega,f,cap,e,hp,λ v s3 l3=>hk v s3 (l.trans l3)⟩
 | alloc n i k=>cases ha
 | cell i k=>cases ha
 | gen k=>cases ha
 | node r k=>cases ha
 | stuck=>cases ha
theorem jB.eV:∀{t:Tr} {s s2:Mm} {c:Cd} {n m:Nat},bQ t n m->jB b t s c s2 B->(eV t s).2=s2/\dG (eV t s).1=true/\jB b (eV t s).1 s2 c s2 B
 | .done _,_,_,_,_,_,_,h=>by obtain⟨rfl,h2⟩:=h;exact⟨rfl,rfl,rfl,h2⟩
 | .load _ k,_,_,_,_,_,_,h=>by obtain⟨rfl,h2⟩:=h;exact⟨rfl,rfl,rfl,h2⟩
 | .jN _ _ _ k,_,_,_,_,_,_,h=>by obtain⟨rfl,h2⟩:=h;exact⟨rfl,rfl,rfl,h2⟩
 | .alloc n i k,s,_,_,_,0,ht,h=>ht.elim
 | .alloc n i k,s,_,_,_,_+1,ht,h=>jB.eV (t:=k ((s.nodes.length+1:Nat):Int)) (ht _) h
 | .cell i k,s,_,_,_,0,ht,h=>ht.elim
 | .cell i k,s,_,_,_,_+1,ht,h=>jB.eV (t:=k ((s.cs.length+1:Nat):Int)) (ht _) h
 | .gen k,s,_,_,_,0,ht,h=>ht.elim
 | .gen k,s,_,_,_,_+1,ht,h=>jB.eV (t:=k (s.gen+1)) (ht _) h
 | .node r k,s,_,_,_,_,ht,h=>jB.eV (t:=k (eA s.nodes r)) (ht _) h.2
 | .stuck,_,_,_,_,_,ht,_=>ht.elim
end
section
variable{S:List (Nat×Value)}{w0 w:World}{M:List Nat}{H:List (Nat×Obj)}{A F:Fr}{O:List Ow}{ty:TypeId}{pos:String}{af:Array Edge}{gd:Option (Nat×Bool)}{X:Type}{V:X->Value}
theorem cMf{φ:X->Prop}{hs H':List (Nat×Obj)}{os O':List Ow}{hs' H1:X->List (Nat×Obj)}{os' O1:X->List Ow}{Fc F1:X->Fr}{A0:Fr}{is js:List Nat}{f:FuncId}{cap:List Value}{xs:List Operand}{at_:Array TypeId}{vs:List Value}{dst:Option Nat}{x:Operand}
  (hx:ev S x=.func (.func f) #[] ⟨cap⟩:=by exact rfl) (ha:pI S xs=vs:=by(repeat (first|exact cD _|(apply bU;focus ((conv=>{lhs;whnf});try exact rfl))));first|done|fail) (hp:plain Tryz.prog f=true)
  (hc:∀w,SF w (Ks hs os) hs A0 [] os w->Calls Tryz.prog f ⟨vs++cap⟩ w λ e w'=>∃x,e=.returned (V x)/\φ x/\SF w (Ks hs os) (hs' x) [] (Fc x) (os' x) w')
  (hH:lU H is hs H':=by(repeat (first|exact lU.nil|(apply lU.cons;(focus ((repeat (first|exact yN.head|apply yN.tail));done));simp only[qG])));first|done|fail)
  (hO:lU O js os O':=by(repeat (first|exact lU.nil|(apply lU.cons;(focus ((repeat (first|exact yN.head|apply yN.tail));done));simp only[qG])));first|done|fail)
  (hA:aX A F O' A0:=by exact aX.of (λ _ h=>Or.inr (Or.inl h)))
  (hl1:∀x,is.length=(hs' x).length:=by intro x;exact rfl) (hl2:∀x,js.length=(os' x).length:=by intro x;exact rfl)
  (hH1:∀x,iN is (hs' x) H'=H1 x:=by intro x;first|(simp only[iN,rD];exact rfl)|exact rfl) (hF1:∀x,Fc x++F=F1 x:=by intro x;first|(simp only[List.nil_append,List.cons_append];exact rfl)|exact rfl) (hO1:∀x,iN js (os' x) O'=O1 x:=by intro x;simp only[iN,rD,mW];exact rfl) :
  bF Tryz.prog S (SF w0 M H A F O) ⟨dst,.call {callee:=.value x,args:=⟨xs⟩,argTypes:=at_},ty,pos,af,gd⟩ X V (λ x w=>φ x/\SF w0 M (H1 x) A (F1 x) (O1 x) w) :=
 gD (p8 hx hp ha) λ w hw=>(hc w (hw.pQ hH hO hA)).mono λ _ _ ⟨x,he,hx,hs⟩=>⟨x,he,hx,by
  have:=hw.wX (hs':=hs' x) (Hc:=[]) (os':=os' x) (Oc:=[]) hH hO (by simpa using hs) (hl1 x) (hl2 x)
  rw[<- hH1 x,<- hF1 x,<- hO1 x]
  simpa using this⟩
end
end

end Go.Proofs.YtbajmaoegmbfgaaGreat
