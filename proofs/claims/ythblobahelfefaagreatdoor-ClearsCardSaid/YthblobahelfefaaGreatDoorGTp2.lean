/- Merged. -/
import Derived.Test.YthblobahelfefaaGreatDoorGBr3
import Derived.Test.YthblobahelfefaaGreatDoorGAutoD
import Derived.Test.YthblobahelfefaaGreatDoorGAr5
set_option linter.unusedSimpArgs false
set_option linter.unusedVariables false
namespace Go.Proofs.YthblobahelfefaaGreatDoor
open Go.RowKit Go.Ct
section
structure nV where
 root:Int
 ro:Bool
structure Cl where
 kind:Int
 t:nV
 a:Int
 b:Int
 n:Int
 index:Int
 hash:Int
 mask:Int
 key:ByteArray
 val:Int
 exp:Int
 pol:Int
 only:Bool
def En(h:Nat)(level:Int):Int:=if level<0∨10<level then 0 else(sl h level.toNat:Int)
def Ps(p:Int):Nv:=({Nd.zero with kind:=7,old:=p}:Nd).c [] []
def dC(g:Int):Nv:=({Nd.zero with kind:=2,gen:=g}:Nd).c [] []
def oP(a b c:Int):Nv:=({Nd.zero with kind:=8,old:=a,exp:=b,new:=c}:Nd).c [] []
def qZ(h:Int)(k:ByteArray)(u:Int):Nv:=({Nd.zero with kind:=4,hash:=h,key:=k,val:=u}:Nd).c [] []
def cQ:Nv:=({Nd.zero with kind:=3}:Nd).c [] []
def aFI(v s:Int)(K:Int->Tr):Tr:=.node v λ n=>K (if s=1 then n.new else n.old)
def lM(t:nV)(v s:Int)(K:Int->Tr):Tr:=aFI v s λ w=>.qG t.root v w λ _=>K w
def V6(t:nV)(K:Int->Tr):Tr:=.load t.root λ v=>.node v λ n=>if n.kind=2 then K v else .node v λ n=>.load n.status λ s =>
 if s=0 then .node v λ n=>.qG n.status 0 2 λ _=>.node v λ n=>.load n.status λ s=>lM t v s K else lM t v s K
def ay(i m p:Int)(K:Int->Tr):Tr:=.node i λ ni=>.node p λ np=>.qG ni.main m np.old λ _=>.node p λ np=>K np.old
def lD(i m:Int)(K:Int->Tr):Tr:=.node m λ nm=>.load nm.prev λ p=>if p=0 then K m else ay i m p K
def qM(i m p:Int)(c:Bool)(K:Int->Tr):Tr :=
 if c=true then .node m λ nm=>.qG nm.prev p 0 λ _=>lD i m K
 else .node m λ nm=>.alloc (Ps p) 0 λ f=>.qG nm.prev p f λ _=>lD i m K
def rT(t:nV)(i m:Int)(K:Int->Tr):Tr:=.node m λ nm=>.load nm.prev λ p=>if p=0 then K m else .node p λ np =>
 if Ap np then(if t.ro=true then qM i m p false K else V6 t λ r=>.node r λ nr=>.node i λ ni=>qM i m p (nr.gen==ni.gen) K)
 else ay i m p K
def xV(t:nV)(i:Int)(K:Int->Tr):Tr:=.node i λ ni=>.load ni.main λ m=>rT t i m K
def oB(t:nV)(v:Int)(K:Tr):Tr:=.node v λ n=>xV t n.old λ r=>.node v λ n2=>.node v λ n3=>.qG n3.status 0 (if r=n2.exp then 1 else 2) λ _=>K
def xO(t:nV)(K:Int->Tr):Tr:=.load t.root λ v=>.node v λ n=>if n.kind=2 then K v else .node v λ n=>.load n.status λ s =>
 if s=0 then oB t v (.node v λ n=>.load n.status λ s=>lM t v s K) else lM t v s K
def kQ(t:nV)(i old n:Int)(K:Bool->Tr):Tr:=.node i λ ni=>.qG ni.main old n λ b=>if b=true then rT t i n λ m=>K (m==n) else K false
def uE(t:nV)(old exp new:Int)(K:Bool->Tr):Tr:=.alloc (oP old exp new) 0 λ d=>.qG t.root old d λ b =>
 if b=true then oB t d (.node d λ nd=>.load nd.status λ s=>lM t d s λ _=>K (s==1)) else K false
def dW(f:Bool)(v:Int):Rs:=⟨0,f,v,⟨#[]⟩,0,0,0,false⟩
def A7(f:Bool)(v:Int):Rs:=⟨0,f,v,⟨#[]⟩,1,0,0,false⟩
def uW(t:nV)(h:Nat)(key:ByteArray)(K:Rs->Tr):Nat->Int->Int->Tr
 | 0,_,_=>.stuck
 | n+1,i,level=>xV t i λ mr=>.node mr λ m =>
  if m.kind=5 then(if m.key=key then K (dW true m.val) else K (dW false 0))
  else if m.kind=6 then K (dW (cU m.ys key).isSome ((cU m.ys key).getD 0))
  else match lY m (En h level) with
   | none=>K (dW false 0)
   | some b=>.node b λ s=>if s.kind=4 then(if s.key=key then K (dW true s.val) else K (dW false 0)) else uW t h key K n b (level+1)
end
end Go.Proofs.YthblobahelfefaaGreatDoor
namespace Go.Ct
open Go Go.RowKit
section
structure AS where
 L:List dJ
 cs:List Int
 gen:Int
 acc:Int
 pn:Option Addr
 cn:Nat
 pc:Option Addr
 cc:Nat
 u:Nat
 po:Obj
 pl:Ow
abbrev AS.pv(a:AS):Pv:=((a.u,a.po),a.pl)
def AS.mm(a:AS):Mm:=⟨(bM a.L).map dJ.c,a.cs,a.gen,a.pv⟩
structure To(s:Mm):Prop where
 nd:∀v∈s.nodes,rH s.nodes.length s.cs.length v
 cs:∀v∈s.cs,v<=s.nodes.length
 two:2<=s.nodes.length
structure AS.Ok(a:AS):Prop where
 fit:Fits a.L
 mo:To a.mm
structure Mm.an(s s1:Mm):Prop where
 nodes:∃N,s1.nodes=s.nodes++N
 cl:s.cs.length<=s1.cs.length
structure Mm.Le(s s1:Mm):Prop where
 le:s.an s1
 pv:s1.pv=s.pv
structure aD3(n c:Nat)(g:Int):Prop where
 n:n<=137438953000
 c:c<=137438953000
 g:0<=g/\g<=137438953000
def Mm.gM(s:Mm):Prop:=aD3 s.nodes.length s.cs.length s.gen
def Mm.Up(s s2:Mm):Prop:=s2=⟨s.nodes,s.cs,s.gen,s2.pv⟩
def Ns(t:Tr)(s:Mm):Prop:=(iR t s).1≠.stuck
structure xK where
 bd:List Value
 cp:List Value
instance:Coe (List Value) xK:=⟨λ l=>⟨[],l⟩⟩
def Mm.Small(s:Mm):Prop:=s.nodes.length<=137438953472/\s.cs.length<=137438953472
structure AS.eC(a a':AS)(F:Fr):Prop where
 le:a.mm.an a'.mm
 fam:∀f∈cH a'.L,f.2=[]∨f∈cH a.L∨f∈F
variable{s t u:Mm}{r:Int}{a:AS}{F:Fr}
theorem Mm.an.refl(s:Mm):s.an s:=⟨⟨[],by simp⟩,Nat.le_refl _⟩
theorem Mm.an.trans(h:s.an t)(h2:t.an u):s.an u:=by obtain⟨⟨N,e⟩,c⟩:=h;obtain⟨⟨M,e2⟩,c2⟩:=h2;exact⟨⟨N++M,by rw[e2,e,List.append_assoc]⟩,Nat.le_trans c c2⟩
theorem Mm.an.len(h:s.an t):s.nodes.length<=t.nodes.length:=by obtain⟨N,e⟩:=h.nodes;rw[e,List.length_append];omega
theorem Mm.an.nd(h:s.an t)(hr:r<=s.nodes.length):aB t.nodes r=aB s.nodes r:=by obtain⟨N,e⟩:=h.nodes;rw[e];exact Px hr
theorem Mm.Le.refl(s:Mm):s.Le s:=⟨.refl s,rfl⟩
theorem Mm.Le.trans{s t u:Mm}(h:s.Le t)(h2:t.Le u):s.Le u:=⟨h.le.trans h2.le,h2.pv.trans h.pv⟩
theorem Mm.Le.len{s t:Mm}(h:s.Le t):s.nodes.length<=t.nodes.length:=h.le.len
theorem Mm.Le.nd{s t:Mm}(h:s.Le t){r:Int}(hr:r<=s.nodes.length):aB t.nodes r=aB s.nodes r:=h.le.nd hr
theorem Mm.Le.cl{s t:Mm}(h:s.Le t):s.cs.length<=t.cs.length:=h.le.cl
theorem Mm.gM.small(h:s.gM):s.Small:=⟨Nat.le_trans h.1 (by decide),Nat.le_trans h.2 (by decide)⟩
theorem AS.eC.refl(a:AS):a.eC a []:=⟨Mm.an.refl _,λ f hf=>.inr (.inl hf)⟩
theorem AS.eC.more{a':AS}{F':Fr}(h:a.eC a' F)(hs:∀f∈F,f∈F'):a.eC a' F':=⟨h.le,λ f hf=>(h.fam f hf).imp_right λ h=>h.imp_right λ h=>hs f h⟩
theorem AS.eC.trans{a b c:AS}{F G:Fr}(h:a.eC b F)(h2:b.eC c G):a.eC c (G++F):=⟨h.le.trans h2.le,λ f hf=>by
 rcases h2.fam f hf with h1|h1|h1;·exact .inl h1
 ·rcases h.fam f h1 with h1|h1|h1;·exact .inl h1
  ·exact .inr (.inl h1)
  ·exact .inr (.inr (List.mem_append_right _ h1))
 ·exact .inr (.inr (List.mem_append_left _ h1))⟩
theorem To.at(h:To s)(r:Int):rH s.nodes.length s.cs.length (aB s.nodes r):=by
 unfold aB;split;·refine h.nd _ ?_;rw[Ss,List.getElem?_eq_getElem (by omega)];exact List.getElem_mem _
 ·exact rr _ _
theorem To.cell(h:To s)(c:Int):aL s.cs c<=s.nodes.length:=by
 unfold aL;split;·exact Ya h.cs _
 ·exact fQ _
theorem To.qG(h:To s){c o n:Int}(hn:n<=s.nodes.length):To ⟨s.nodes,gG s.cs c o n,s.gen,s.pv⟩:=by
 refine⟨λ v hv=>by simp only[gY];exact h.nd v hv,λ v hv=>?_,h.two⟩;simp only[gG] at hv;split at hv
 ·rcases List.mem_or_eq_of_mem_set hv with hv|rfl;·exact h.cs v hv
  ·exact hn
 ·exact h.cs v hv
end
end Go.Ct
namespace Go.Proofs.YthblobahelfefaaGreatDoor
open Go.Proofs.Tryz
open Go Go.RowKit Go.Ct
section
abbrev cX(a:AS):Obj:=aO a.L a.cs a.gen a.acc a.pn a.cn a.pc a.cc
abbrev iS(a:AS):List Ow:=mW a.L a.cs a.pn a.cn a.pc a.cc
abbrev E0:Ow:=⟨none,[],0,0,1⟩
abbrev hU(a:AS):List Ow:=a.pl::iS a
def kC(b:Nat)(R:Cd->Mm->Fr->Prop)(a:AS)(B:Fr)(D:List Nat)(w:World):Ending->World->Prop:=λ e w'=>∃y:Cd×Fr×AS,e=.returned (.agg ⟨y.1.cells⟩)/\(R y.1 y.2.2.mm (y.2.1++B)/\y.2.2.Ok/\a.eC y.2.2 y.2.1)/\SF w D [(b,cX y.2.2),(y.2.2.u,y.2.2.po)] [] y.2.1 (hU y.2.2) w'
def B9(b:Nat)(f:FuncId)(cap:xK)(arg:List Value)(B:Fr)(s:Mm)(R:Cd->Mm->Fr->Prop):Prop :=∀(a:AS) (D:List Nat) (A:Fr) (w:World),a.mm=s->a.Ok->s.gM->(∀f∈cH a.L,f∈A)->(∀f∈B,f∈A)->SF w D [(b,cX a),(a.u,a.po)] A [] (hU a) w->Calls prog f ⟨cap.bd++arg++cap.cp⟩ w (kC b R a B D w)
def dZ(b:Nat):Tr->Mm->Cd->Mm->Fr->Prop
 | .done r,s,c,s2,_=>s.Up s2/\c=eS r
 | .load x k,s,c,s2,B=>s.Up s2/\x<=9223372036854775807/\∃f cap,c=lL x f cap/\plain prog f=true/\∀(v:Int) (s1:Mm),s2.Le s1->v<=s1.nodes.length->Ns (k v) s1->B9 b f ⟨[],cap⟩ [.int .i64 v] B s1 λ c' s' B'=>dZ b (k v) s1 c' s' B'
 | .qG x o n k,s,c,s2,B=>s.Up s2/\x<=9223372036854775807/\n<=s.nodes.length/\∃f cap,c=qS x o n f cap/\plain prog f=true/\∀(v:Bool) (s1:Mm),s2.Le s1->Ns (k v) s1->B9 b f ⟨[],cap⟩ [.bool v] B s1 λ c' s' B'=>dZ b (k v) s1 c' s' B'
 | .alloc n i k,s,c,s2,B=>dZ b (k ((s.nodes.length+1:Nat):Int)) (s.push n i) c s2 B
 | .cell i k,s,c,s2,B=>dZ b (k ((s.cs.length+1:Nat):Int)) ⟨s.nodes,s.cs++[i],s.gen,s.pv⟩ c s2 B
 | .gen k,s,c,s2,B=>dZ b (k (s.gen+1)) ⟨s.nodes,s.cs,s.gen+1,s.pv⟩ c s2 B
 | .node r k,s,c,s2,B=>r<=s.nodes.length/\dZ b (k (aB s.nodes r)) s c s2 B
 | .stuck,_,_,_,_=>True
def tQ(b:Nat)(K:Int->Tr)(s:Mm)(f:FuncId)(cap:xK)(B:Fr):Prop:=plain prog f=true/\∀(v:Int) (s1:Mm),s.Le s1->v<=s1.nodes.length->Ns (K v) s1->B9 b f cap [.int .i64 v] B s1 λ c' s' B'=>dZ b (K v) s1 c' s' B'
def Na(b:Nat)(K:Bool->Tr)(s:Mm)(f:FuncId)(cap:xK)(B:Fr):Prop:=plain prog f=true/\∀(v:Bool) (s1:Mm),s.Le s1->Ns (K v) s1->B9 b f cap [.bool v] B s1 λ c' s' B'=>dZ b (K v) s1 c' s' B'
def X3(b:Nat)(t:Tr)(s:Mm)(f:FuncId)(cap:xK)(B:Fr):Prop:=plain prog f=true/\∀s1:Mm,s.Le s1->Ns t s1->B9 b f cap [] B s1 λ c' s' B'=>dZ b t s1 c' s' B'
section
variable{b:Nat}{f:FuncId}{cap:xK}{arg:List Value}{B B2:Fr}{s s1 s2:Mm}{t:Tr}{c:Cd}
theorem B9.more{R R2:Cd->Mm->Fr->Prop}(h:B9 b f cap arg B s R)(hb:∀x∈B,x∈B2)(hR:∀c m C C2,(∀x∈C,x∈C2)->R c m C->R2 c m C2):B9 b f cap arg B2 s R2:=λ a D A w e1 ok hs h1 h2 hw =>
 (h a D A w e1 ok hs h1 (λ x hx=>h2 x (hb x hx)) hw).mono λ e w' ⟨y,he,⟨hr,h3⟩,hs⟩=>⟨y,he,⟨hR _ _ _ _ (λ x hx=>by
  rcases List.mem_append.1 hx with h1|h1;·exact List.mem_append_left _ h1
  ·exact List.mem_append_right _ (hb x h1)) hr,h3⟩,hs⟩
theorem dZ.more:∀{t:Tr} {s s2:Mm} {c:Cd} {B B2:Fr},dZ b t s c s2 B->(∀x∈B,x∈B2)->dZ b t s c s2 B2
 | .done _,_,_,_,_,_,h,_=>h
 | .load _ k,_,_,_,_,_,⟨h0,h1,f,cap,h2,h3,h4⟩,hb=>⟨h0,h1,f,cap,h2,h3,λ v s1 l hv hn=>(h4 v s1 l hv hn).more hb λ _ _ _ _ hC h=>dZ.more (t:=k v) h hC⟩
 | .qG _ _ _ k,_,_,_,_,_,⟨h0,h1,hn,f,cap,h2,h3,h4⟩,hb=>⟨h0,h1,hn,f,cap,h2,h3,λ v s1 l hn=>(h4 v s1 l hn).more hb λ _ _ _ _ hC h=>dZ.more (t:=k v) h hC⟩
 | .alloc n i k,s,_,_,_,_,h,hb=>dZ.more (t:=k ((s.nodes.length+1:Nat):Int)) h hb
 | .cell i k,s,_,_,_,_,h,hb=>dZ.more (t:=k ((s.cs.length+1:Nat):Int)) h hb
 | .gen k,s,_,_,_,_,h,hb=>dZ.more (t:=k (s.gen+1)) h hb
 | .node r k,s,_,_,_,_,h,hb=>⟨h.1,dZ.more (t:=k (aB s.nodes r)) h.2 hb⟩
 | .stuck,_,_,_,_,_,_,_=>trivial
theorem tQ.more{K:Int->Tr}(h:tQ b K s f cap B)(hb:∀x∈B,x∈B2):tQ b K s f cap B2:=⟨h.1,λ v s1 l hv hn=>(h.2 v s1 l hv hn).more hb λ _ _ _ _ hC h=>dZ.more h hC⟩
theorem Na.more{K:Bool->Tr}(h:Na b K s f cap B)(hb:∀x∈B,x∈B2):Na b K s f cap B2:=⟨h.1,λ v s1 l hn=>(h.2 v s1 l hn).more hb λ _ _ _ _ hC h=>dZ.more h hC⟩
theorem X3.more(h:X3 b t s f cap B)(hb:∀x∈B,x∈B2):X3 b t s f cap B2:=⟨h.1,λ s1 l hn=>(h.2 s1 l hn).more hb λ _ _ _ _ hC h=>dZ.more h hC⟩
theorem tQ.le{K:Int->Tr}(h:tQ b K s f cap B)(l:s.Le s1):tQ b K s1 f cap B:=⟨h.1,λ v s2 l2 hv=>h.2 v s2 (l.trans l2) hv⟩
theorem Na.le{K:Bool->Tr}(h:Na b K s f cap B)(l:s.Le s1):Na b K s1 f cap B:=⟨h.1,λ v s2 l2=>h.2 v s2 (l.trans l2)⟩
theorem X3.le(h:X3 b t s f cap B)(l:s.Le s1):X3 b t s1 f cap B:=⟨h.1,λ s2 l2=>h.2 s2 (l.trans l2)⟩
theorem dZ.kind(h:dZ b t s c s2 B)(ha:fB t=true):(c.a.k=0↔t.live=false)/\(∀r,t=.done r->c.r=r)/\(∀x,t.acc=some x->c.a=x):=by
 cases t with
 | done r=>rw[h.2];exact⟨⟨λ _=>rfl,λ _=>rfl⟩,(λ r e=>by cases e;rfl),(λ x e=>nomatch e)⟩
 | load x k=>obtain⟨_,_,f,cap,e,_⟩:=h;rw[e];exact⟨⟨λ h=>absurd h (show(1:Int)≠0 by decide),(λ h=>nomatch h)⟩,(λ r e=>nomatch e),λ x e=>by cases e;rfl⟩
 | qG x o n k=>obtain⟨_,_,_,f,cap,e,_⟩:=h;rw[e];exact⟨⟨λ h=>absurd h (show(2:Int)≠0 by decide),(λ h=>nomatch h)⟩,(λ r e=>nomatch e),λ x e=>by cases e;rfl⟩
 | alloc n i k=>cases ha
 | cell i k=>cases ha
 | gen k=>cases ha
 | node r k=>cases ha
 | stuck=>cases ha
theorem dZ.le(h:dZ b t s c s2 B)(ha:fB t=true)(l:s2.Le s1):dZ b t s1 c s1 B:=by
 cases t with
 | done r=>exact⟨rfl,h.2⟩
 | load x k=>obtain⟨_,h1,f,cap,e,hp,hk⟩:=h;exact⟨rfl,h1,f,cap,e,hp,λ v s3 l3 hv hn=>hk v s3 (l.trans l3) hv hn⟩
 | qG x o n k=>
  obtain⟨hu,h1,hn,f,cap,e,hp,hk⟩:=h;have hl:s2.nodes.length=s.nodes.length:=by rw[hu]
  exact⟨rfl,h1,by have:=l.len;omega,f,cap,e,hp,λ v s3 l3 hn=>hk v s3 (l.trans l3) hn⟩
 | alloc n i k=>cases ha
 | cell i k=>cases ha
 | gen k=>cases ha
 | node r k=>cases ha
 | stuck=>cases ha
theorem dZ.iR:∀{t:Tr} {s s2:Mm} {c:Cd},Ns t s->dZ b t s c s2 B->(iR t s).2.Up s2/\fB (iR t s).1=true/\dZ b (iR t s).1 s2 c s2 B
 | .done _,_,_,_,_,h=>⟨h.1,rfl,rfl,h.2⟩
 | .load _ k,_,_,_,_,h=>⟨h.1,rfl,rfl,h.2⟩
 | .qG _ _ _ k,s,s2,_,_,h=>⟨h.1,rfl,rfl,h.2.1,by have h1:=h.1;have h2:=h.2.2.1;rw[show s2.nodes=s.nodes by rw[h1]];exact h2,h.2.2.2⟩
 | .alloc n i k,s,_,_,ht,h=>dZ.iR (t:=k ((s.nodes.length+1:Nat):Int)) ht h
 | .cell i k,s,_,_,ht,h=>dZ.iR (t:=k ((s.cs.length+1:Nat):Int)) ht h
 | .gen k,s,_,_,ht,h=>dZ.iR (t:=k (s.gen+1)) ht h
 | .node r k,s,_,_,ht,h=>dZ.iR (t:=k (aB s.nodes r)) ht h.2
 | .stuck,_,_,_,ht,_=>(ht rfl).elim
end
section
variable{S:List (Nat×Value)}{w0 w:World}{M:List Nat}{H:List (Nat×Obj)}{A F:Fr}{O:List Ow}{ty:TypeId}{pos:String}{af:Array Edge}{gd:Option (Nat×Bool)}{X:Type}{V:X->Value}
variable{f:FuncId}{cap:xK}{at_:Array TypeId}{vs:List Value}{dst:Option Nat}{x:Operand}
theorem tv{P:Program}{os:List Operand}(hx:ev S x=.func (.func f) ⟨cap.bd⟩ ⟨cap.cp⟩)(hp:plain P f=true)(ha:lX S os=vs)(w:World) :
  (execOp (ev S) ⟨dst,.call {callee:=.value x,args:=⟨os⟩,argTypes:=at_},ty,pos,af,gd⟩).run P w=.ok (.enter f ⟨cap.bd++vs++cap.cp⟩) w:=by
 subst ha;have hm:(os.map (ev S)).toArray=⟨lX S os⟩:=by rw[sE]
 simp[execOp,resolve,hx,Deferred.ofValue,invoke,nX hp,hm]
theorem cMf{φ:X->Prop}{hs H':List (Nat×Obj)}{os O':List Ow}{hs' H1:X->List (Nat×Obj)}{os' O1:X->List Ow}{Fc F1:X->Fr}{A0:Fr}{is js:List Nat}{xs:List Operand}(hx:ev S x=.func (.func f) ⟨cap.bd⟩ ⟨cap.cp⟩:=by exact rfl)(ha:lX S xs=vs:=by(repeat (first|exact bK _|(apply aZ;focus ((conv=>{lhs;whnf});try exact rfl))));first|done|fail)(hp:plain prog f=true)(hc:∀w,SF w (Ks hs os) hs A0 [] os w->Calls prog f ⟨cap.bd++vs++cap.cp⟩ w λ e w'=>∃x,e=.returned (V x)/\φ x/\SF w (Ks hs os) (hs' x) [] (Fc x) (os' x) w')(hH:mT H is hs H':=by(repeat (first|exact mT.nil|(apply mT.cons;(focus ((repeat (first|exact By.head|apply By.tail));done));simp only[qK])));first|done|fail)(hO:mT O js os O':=by(repeat (first|exact mT.nil|(apply mT.cons;(focus ((repeat (first|exact By.head|apply By.tail));done));simp only[qK])));first|done|fail)(hA:bL A F O' A0:=by exact bL.of (λ _ h=>Or.inr (Or.inl h)))(hl1:∀x,is.length=(hs' x).length:=by intro x;exact rfl)(hl2:∀x,js.length=(os' x).length:=by intro x;exact rfl)(hH1:∀x,jP is (hs' x) H'=H1 x:=by intro x;first|(simp only[jP,sL];exact rfl)|exact rfl)(hF1:∀x,Fc x++F=F1 x:=by intro x;first|(simp only[List.nil_append,List.cons_append];exact rfl)|exact rfl)(hO1:∀x,jP js (os' x) O'=O1 x:=by intro x;simp only[jP,sL,mW];exact rfl) :
  aQ prog S (SF w0 M H A F O) ⟨dst,.call {callee:=.value x,args:=⟨xs⟩,argTypes:=at_},ty,pos,af,gd⟩ X V (λ x w=>φ x/\SF w0 M (H1 x) A (F1 x) (O1 x) w) :=
 gD (tv hx hp ha) λ w hw=>(hc w (hw.qT hH hO hA)).mono λ _ _ ⟨x,he,hx,hs⟩=>⟨x,he,hx,by have:=hw.A8 (hs':=hs' x) (Hc:=[]) (os':=os' x) (Oc:=[]) hH hO (by simpa using hs) (hl1 x) (hl2 x);rw[<- hH1 x,<- hF1 x,<- hO1 x];simpa using this⟩
end
end
end Go.Proofs.YthblobahelfefaaGreatDoor
