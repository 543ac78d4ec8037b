/- Merged. -/
import Derived.Test.YtdeecdfockjoiaaGreatDoorGAr5
set_option linter.unusedSimpArgs false
set_option linter.unusedVariables false
namespace Go.Proofs.YtdeecdfockjoiaaGreatDoor
open Go.RowKit Go.Ct
structure oB where
 root:Int
 ro:Bool
structure Cl where
 kind:Int
 t:oB
 a:Int
 b:Int
 n:Int
 index:Int
 hash:Int
 mask:Int
 key:ByteArray
 val:Int
 exp:Int
 pol:Int
 only:Bool
def oU(h:Nat)(level:Int):Int:=if level<0∨10<level then 0 else(sl h level.toNat:Int)
def gr(p:Int):Nv:=({Nd.zero with kind:=7,old:=p}:Nd).c [] []
def eY(g:Int):Nv:=({Nd.zero with kind:=2,gen:=g}:Nd).c [] []
def gA(h:Int)(k:ByteArray)(u:Int):Nv:=({Nd.zero with kind:=4,hash:=h,key:=k,val:=u}:Nd).c [] []
def Mc:Nv:=({Nd.zero with kind:=3}:Nd).c [] []
def aDA(v s:Int)(K:Int->Tr):Tr:=.node v λ n=>K (if s=1 then n.new else n.old)
def tR(t:oB)(v s:Int)(K:Int->Tr):Tr:=aDA v s λ w=>.sJ t.root v w λ _=>K w
def m6(t:oB)(K:Int->Tr):Tr:=.load t.root λ v=>.node v λ n=>if n.kind=2 then K v else .node v λ n=>.load n.status λ s =>
 if s=0 then .node v λ n=>.sJ n.status 0 2 λ _=>.node v λ n=>.load n.status λ s=>tR t v s K else tR t v s K
def og(i m p:Int)(K:Int->Tr):Tr:=.node i λ ni=>.node p λ np=>.sJ ni.main m np.old λ _=>.node p λ np=>K np.old
def oC(i m:Int)(K:Int->Tr):Tr:=.node m λ nm=>.load nm.prev λ p=>if p=0 then K m else og i m p K
def yG(i m p:Int)(c:Bool)(K:Int->Tr):Tr :=
 if c=true then .node m λ nm=>.sJ nm.prev p 0 λ _=>oC i m K
 else .node m λ nm=>.alloc (gr p) 0 λ f=>.sJ nm.prev p f λ _=>oC i m K
def tQ(t:oB)(i m:Int)(K:Int->Tr):Tr:=.node m λ nm=>.load nm.prev λ p=>if p=0 then K m else .node p λ np =>
 if yE np then(if t.ro=true then yG i m p false K else m6 t λ r=>.node r λ nr=>.node i λ ni=>yG i m p (nr.gen==ni.gen) K)
 else og i m p K
def nG(t:oB)(i:Int)(K:Int->Tr):Tr:=.node i λ ni=>.load ni.main λ m=>tQ t i m K
def Fi(t:oB)(v:Int)(K:Tr):Tr:=.node v λ n=>nG t n.old λ r=>.node v λ n2=>.node v λ n3=>.sJ n3.status 0 (if r=n2.exp then 1 else 2) λ _=>K
def B7(t:oB)(K:Int->Tr):Tr:=.load t.root λ v=>.node v λ n=>if n.kind=2 then K v else .node v λ n=>.load n.status λ s =>
 if s=0 then Fi t v (.node v λ n=>.load n.status λ s=>tR t v s K) else tR t v s K
def iN(t:oB)(i old n:Int)(K:Bool->Tr):Tr:=.node i λ ni=>.sJ ni.main old n λ b=>if b=true then tQ t i n λ m=>K (m==n) else K false
def eG(f:Bool)(v:Int):Rs:=⟨0,f,v,⟨#[]⟩,0,0,0,false⟩
def gP(f:Bool)(v:Int):Rs:=⟨0,f,v,⟨#[]⟩,1,0,0,false⟩
def Ej(t:oB)(h:Nat)(key:ByteArray)(K:Rs->Tr):Nat->Int->Int->Tr
 | 0,_,_=>.stuck
 | n+1,i,level=>nG t i λ mr=>.node mr λ m =>
  if m.kind=5 then(if m.key=key then K (eG true m.val) else K (eG false 0))
  else if m.kind=6 then K (eG (cS m.ys key).isSome ((cS m.ys key).getD 0))
  else match iU m (oU h level) with
   | none=>K (eG false 0)
   | some b=>.node b λ s=>if s.kind=4 then(if s.key=key then K (eG true s.val) else K (eG false 0)) else Ej t h key K n b (level+1)
end Go.Proofs.YtdeecdfockjoiaaGreatDoor
