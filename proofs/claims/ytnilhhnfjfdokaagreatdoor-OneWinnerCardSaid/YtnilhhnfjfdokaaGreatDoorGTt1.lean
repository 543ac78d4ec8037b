/- Codes with a store: what they mean as trees. -/
import Derived.Test.YtnilhhnfjfdokaaGreatDoorGDfr
import Derived.Test.YtnilhhnfjfdokaaGreatDoorGShort
import Derived.Test.YtnilhhnfjfdokaaGreatDoorGNode3

set_option linter.unusedSimpArgs false
set_option linter.unusedVariables false
namespace Go.Ct
section
open Go Go.RowKit
structure AS where
 L:List eY
 cs:List Int
 gen:Int
 acc:Int
 pn:Option Addr
 cn:Nat
 pc:Option Addr
 cc:Nat
 u:Nat
 po:Obj
abbrev AS.pv(a:AS):Nat×Obj:=(a.u,a.po)
def AS.mm(a:AS):Mm:=⟨(cN a.L).map eY.c,a.cs,a.gen,a.pv⟩
structure Sm(s:Mm):Prop where
 nd:∀v∈s.nodes,uJ s.nodes.length s.cs.length v
 cs:∀v∈s.cs,v<=s.nodes.length
 two:2<=s.nodes.length
structure AS.Ok(a:AS):Prop where
 fit:Fits a.L
 mo:Sm a.mm
structure Mm.Px(s s1:Mm):Prop where
 nodes:∃N,s1.nodes=s.nodes++N
 cl:s.cs.length<=s1.cs.length
structure Mm.Le(s s1:Mm):Prop where
 le:s.Px s1
 pv:s1.pv=s.pv
def Mm.jL(s:Mm):Prop:=s.nodes.length<=137438953000/\s.cs.length<=137438953000
def Mm.Up(s s2:Mm):Prop:=s2=⟨s.nodes,s.cs,s.gen,s2.pv⟩
def Ns(t:Tr)(s:Mm):Prop:=(fA t s).1≠.stuck
structure wN where
 bd:List Value
 cp:List Value
instance:Coe (List Value) wN:=⟨λ l=>⟨[],l⟩⟩
def Mm.Small(s:Mm):Prop:=s.nodes.length<=137438953472/\s.cs.length<=137438953472
structure AS.fG(a a':AS)(F:Fr):Prop where
 le:a.mm.Px a'.mm
 fam:∀f∈dV a'.L,f.2=[]∨f∈dV a.L∨f∈F
theorem Mm.Px.refl(s:Mm):s.Px s:=⟨⟨[],by simp⟩,Nat.le_refl _⟩
theorem Mm.Px.trans{s t u:Mm}(h:s.Px t)(h2:t.Px u):s.Px u:=by
 obtain⟨⟨N,e⟩,c⟩:=h
 obtain⟨⟨M,e2⟩,c2⟩:=h2
 exact⟨⟨N++M,by rw[e2,e,List.append_assoc]⟩,Nat.le_trans c c2⟩
theorem Mm.Px.len{s t:Mm}(h:s.Px t):s.nodes.length<=t.nodes.length:=by obtain⟨N,e⟩:=h.nodes;rw[e,List.length_append];omega
theorem Mm.Px.nd{s t:Mm}(h:s.Px t){r:Int}(hr:r<=s.nodes.length):bU t.nodes r=bU s.nodes r:=by obtain⟨N,e⟩:=h.nodes;rw[e];exact Cm hr
theorem Mm.Le.refl(s:Mm):s.Le s:=⟨.refl s,rfl⟩
theorem Mm.Le.trans{s t u:Mm}(h:s.Le t)(h2:t.Le u):s.Le u:=⟨h.le.trans h2.le,h2.pv.trans h.pv⟩
theorem Mm.Le.len{s t:Mm}(h:s.Le t):s.nodes.length<=t.nodes.length:=h.le.len
theorem Mm.Le.nd{s t:Mm}(h:s.Le t){r:Int}(hr:r<=s.nodes.length):bU t.nodes r=bU s.nodes r:=h.le.nd hr
theorem Mm.Le.cl{s t:Mm}(h:s.Le t):s.cs.length<=t.cs.length:=h.le.cl
theorem Mm.jL.small{s:Mm}(h:s.jL):s.Small:=⟨Nat.le_trans h.1 (by decide),Nat.le_trans h.2 (by decide)⟩
theorem AS.fG.refl(a:AS):a.fG a []:=⟨Mm.Px.refl _,λ f hf=>.inr (.inl hf)⟩
theorem AS.fG.more{a a':AS}{F F':Fr}(h:a.fG a' F)(hs:∀f∈F,f∈F'):a.fG a' F':=⟨h.le,λ f hf=>(h.fam f hf).imp_right λ h=>h.imp_right λ h=>hs f h⟩
theorem AS.fG.trans{a b c:AS}{F G:Fr}(h:a.fG b F)(h2:b.fG c G):a.fG c (G++F):=⟨h.le.trans h2.le,λ f hf=>by
 rcases h2.fam f hf with h1|h1|h1
 ·exact .inl h1
 ·rcases h.fam f h1 with h1|h1|h1
  ·exact .inl h1
  ·exact .inr (.inl h1)
  ·exact .inr (.inr (List.mem_append_right _ h1))
 ·exact .inr (.inr (List.mem_append_left _ h1))⟩
theorem Sm.at{s:Mm}(h:Sm s)(r:Int):uJ s.nodes.length s.cs.length (bU s.nodes r):=by
 unfold bU
 split
 ·refine h.nd _ ?_
  rw[G0,List.getElem?_eq_getElem (by omega)]
  exact List.getElem_mem _
 ·exact Rk _ _
theorem Sm.cell{s:Mm}(h:Sm s)(c:Int):cW s.cs c<=s.nodes.length:=by
 unfold cW
 split
 ·exact M8 h.cs _
 ·exact pR _
theorem Sm.oI{s:Mm}(h:Sm s){c o n:Int}(hn:n<=s.nodes.length):Sm ⟨s.nodes,dU s.cs c o n,s.gen,s.pv⟩:=by
 refine⟨λ v hv=>by simp only[fU];exact h.nd v hv,λ v hv=>?_,h.two⟩
 simp only[dU] at hv
 split at hv
 ·rcases List.mem_or_eq_of_mem_set hv with hv|rfl
  ·exact h.cs v hv
  ·exact hn
 ·exact h.cs v hv
end
end Go.Ct
namespace Go.Proofs.YtnilhhnfjfdokaaGreatDoor
section
open Go Go.RowKit Go.Ct
abbrev eN(a:AS):Obj:=aO a.L a.cs a.gen a.acc a.pn a.cn a.pc a.cc
abbrev fD(a:AS):List Ow:=mW a.L a.cs a.pn a.cn a.pc a.cc
def mS(b:Nat)(R:Cd->Mm->Fr->Prop)(a:AS)(B:Fr)(D:List Nat)(w:World):Ending->World->Prop:=λ e w'=>∃y:Cd×Fr×AS,e=.returned (.agg ⟨y.1.cells⟩)/\(R y.1 y.2.2.mm (y.2.1++B)/\y.2.2.Ok/\a.fG y.2.2 y.2.1)/\SF w D [(b,eN y.2.2),(y.2.2.u,y.2.2.po)] [] y.2.1 (fD y.2.2) w'
def yK(b:Nat)(f:FuncId)(cap:wN)(arg:List Value)(B:Fr)(s:Mm)(R:Cd->Mm->Fr->Prop):Prop :=
 ∀(a:AS) (D:List Nat) (A:Fr) (w:World),a.mm=s->a.Ok->s.jL->(∀f∈dV a.L,f∈A)->(∀f∈B,f∈A)->SF w D [(b,eN a),(a.u,a.po)] A [] (fD a) w->Calls Tryz.prog f ⟨cap.bd++arg++cap.cp⟩ w (mS b R a B D w)
def fN(b:Nat):Tr->Mm->Cd->Mm->Fr->Prop
 | .done r,s,c,s2,_=>s.Up s2/\c=fP r
 | .load x k,s,c,s2,B=>s.Up s2/\x<=9223372036854775807/\∃f cap,c=kO x f cap/\plain Tryz.prog f=true/\∀(v:Int) (s1:Mm),s2.Le s1->v<=s1.nodes.length->Ns (k v) s1->yK b f ⟨[],cap⟩ [.int .i64 v] B s1 λ c' s' B'=>fN b (k v) s1 c' s' B'
 | .oI x o n k,s,c,s2,B=>s.Up s2/\x<=9223372036854775807/\n<=s.nodes.length/\∃f cap,c=pG x o n f cap/\plain Tryz.prog f=true/\∀(v:Bool) (s1:Mm),s2.Le s1->Ns (k v) s1->yK b f ⟨[],cap⟩ [.bool v] B s1 λ c' s' B'=>fN b (k v) s1 c' s' B'
 | .alloc n i k,s,c,s2,B=>fN b (k ((s.nodes.length+1:Nat):Int)) (s.push n i) c s2 B
 | .cell i k,s,c,s2,B=>fN b (k ((s.cs.length+1:Nat):Int)) ⟨s.nodes,s.cs++[i],s.gen,s.pv⟩ c s2 B
 | .gen k,s,c,s2,B=>fN b (k (s.gen+1)) ⟨s.nodes,s.cs,s.gen+1,s.pv⟩ c s2 B
 | .node r k,s,c,s2,B=>r<=s.nodes.length/\fN b (k (bU s.nodes r)) s c s2 B
 | .stuck,_,_,_,_=>True
def sP(b:Nat)(K:Int->Tr)(s:Mm)(f:FuncId)(cap:wN)(B:Fr):Prop:=plain Tryz.prog f=true/\∀(v:Int) (s1:Mm),s.Le s1->v<=s1.nodes.length->Ns (K v) s1->yK b f cap [.int .i64 v] B s1 λ c' s' B'=>fN b (K v) s1 c' s' B'
def Q0(b:Nat)(K:Bool->Tr)(s:Mm)(f:FuncId)(cap:wN)(B:Fr):Prop:=plain Tryz.prog f=true/\∀(v:Bool) (s1:Mm),s.Le s1->Ns (K v) s1->yK b f cap [.bool v] B s1 λ c' s' B'=>fN b (K v) s1 c' s' B'
def Pb(b:Nat)(t:Tr)(s:Mm)(f:FuncId)(cap:wN)(B:Fr):Prop:=plain Tryz.prog f=true/\∀s1:Mm,s.Le s1->Ns t s1->yK b f cap [] B s1 λ c' s' B'=>fN b t s1 c' s' B'
section
variable{b:Nat}{f:FuncId}{cap:wN}{arg:List Value}{B B2:Fr}{s s1 s2:Mm}{t:Tr}{c:Cd}
theorem yK.more{R R2:Cd->Mm->Fr->Prop}(h:yK b f cap arg B s R)(hb:∀x∈B,x∈B2)(hR:∀c m C C2,(∀x∈C,x∈C2)->R c m C->R2 c m C2):yK b f cap arg B2 s R2:=λ a D A w e1 ok hs h1 h2 hw =>
 (h a D A w e1 ok hs h1 (λ x hx=>h2 x (hb x hx)) hw).mono λ e w' ⟨y,he,⟨hr,h3⟩,hs⟩=>⟨y,he,⟨hR _ _ _ _ (λ x hx=>by
  rcases List.mem_append.1 hx with h1|h1
  ·exact List.mem_append_left _ h1
  ·exact List.mem_append_right _ (hb x h1)) hr,h3⟩,hs⟩
theorem fN.more:∀{t:Tr} {s s2:Mm} {c:Cd} {B B2:Fr},fN b t s c s2 B->(∀x∈B,x∈B2)->fN b t s c s2 B2
 | .done _,_,_,_,_,_,h,_=>h
 | .load _ k,_,_,_,_,_,⟨h0,h1,f,cap,h2,h3,h4⟩,hb=>⟨h0,h1,f,cap,h2,h3,λ v s1 l hv hn=>(h4 v s1 l hv hn).more hb λ _ _ _ _ hC h=>fN.more (t:=k v) h hC⟩
 | .oI _ _ _ k,_,_,_,_,_,⟨h0,h1,hn,f,cap,h2,h3,h4⟩,hb=>⟨h0,h1,hn,f,cap,h2,h3,λ v s1 l hn=>(h4 v s1 l hn).more hb λ _ _ _ _ hC h=>fN.more (t:=k v) h hC⟩
 | .alloc n i k,s,_,_,_,_,h,hb=>fN.more (t:=k ((s.nodes.length+1:Nat):Int)) h hb
 | .cell i k,s,_,_,_,_,h,hb=>fN.more (t:=k ((s.cs.length+1:Nat):Int)) h hb
 | .gen k,s,_,_,_,_,h,hb=>fN.more (t:=k (s.gen+1)) h hb
 | .node r k,s,_,_,_,_,h,hb=>⟨h.1,fN.more (t:=k (bU s.nodes r)) h.2 hb⟩
 | .stuck,_,_,_,_,_,_,_=>trivial
theorem sP.more{K:Int->Tr}(h:sP b K s f cap B)(hb:∀x∈B,x∈B2):sP b K s f cap B2:=⟨h.1,λ v s1 l hv hn=>(h.2 v s1 l hv hn).more hb λ _ _ _ _ hC h=>fN.more h hC⟩
theorem Q0.more{K:Bool->Tr}(h:Q0 b K s f cap B)(hb:∀x∈B,x∈B2):Q0 b K s f cap B2:=⟨h.1,λ v s1 l hn=>(h.2 v s1 l hn).more hb λ _ _ _ _ hC h=>fN.more h hC⟩
theorem Pb.more(h:Pb b t s f cap B)(hb:∀x∈B,x∈B2):Pb b t s f cap B2:=⟨h.1,λ s1 l hn=>(h.2 s1 l hn).more hb λ _ _ _ _ hC h=>fN.more h hC⟩
theorem sP.le{K:Int->Tr}(h:sP b K s f cap B)(l:s.Le s1):sP b K s1 f cap B:=⟨h.1,λ v s2 l2 hv=>h.2 v s2 (l.trans l2) hv⟩
theorem Q0.le{K:Bool->Tr}(h:Q0 b K s f cap B)(l:s.Le s1):Q0 b K s1 f cap B:=⟨h.1,λ v s2 l2=>h.2 v s2 (l.trans l2)⟩
theorem Pb.le(h:Pb b t s f cap B)(l:s.Le s1):Pb b t s1 f cap B:=⟨h.1,λ s2 l2=>h.2 s2 (l.trans l2)⟩
theorem fN.kind(h:fN b t s c s2 B)(ha:fK t=true):(c.a.k=0↔t.live=false)/\(∀r,t=.done r->c.r=r)/\(∀x,t.acc=some x->c.a=x):=by
 cases t with
 | done r=>rw[h.2];exact⟨⟨λ _=>rfl,λ _=>rfl⟩,(λ r e=>by cases e;rfl),(λ x e=>nomatch e)⟩
 | load x k =>
  obtain⟨_,_,f,cap,e,_⟩:=h
  rw[e]
  exact⟨⟨λ h=>absurd h (show(1:Int)≠0 by decide),(λ h=>nomatch h)⟩,(λ r e=>nomatch e),λ x e=>by cases e;rfl⟩
 | oI x o n k =>
  obtain⟨_,_,_,f,cap,e,_⟩:=h
  rw[e]
  exact⟨⟨λ h=>absurd h (show(2:Int)≠0 by decide),(λ h=>nomatch h)⟩,(λ r e=>nomatch e),λ x e=>by cases e;rfl⟩
 | alloc n i k=>cases ha
 | cell i k=>cases ha
 | gen k=>cases ha
 | node r k=>cases ha
 | stuck=>cases ha
theorem fN.le(h:fN b t s c s2 B)(ha:fK t=true)(l:s2.Le s1):fN b t s1 c s1 B:=by
 cases t with
 | done r=>exact⟨rfl,h.2⟩
 | load x k =>
  obtain⟨_,h1,f,cap,e,hp,hk⟩:=h
  exact⟨rfl,h1,f,cap,e,hp,λ v s3 l3 hv hn=>hk v s3 (l.trans l3) hv hn⟩
 | oI x o n k =>
  obtain⟨hu,h1,hn,f,cap,e,hp,hk⟩:=h
  have hl:s2.nodes.length=s.nodes.length:=by rw[hu]
  exact⟨rfl,h1,by have:=l.len;omega,f,cap,e,hp,λ v s3 l3 hn=>hk v s3 (l.trans l3) hn⟩
 | alloc n i k=>cases ha
 | cell i k=>cases ha
 | gen k=>cases ha
 | node r k=>cases ha
 | stuck=>cases ha
theorem fN.fA:∀{t:Tr} {s s2:Mm} {c:Cd},Ns t s->fN b t s c s2 B->(fA t s).2.Up s2/\fK (fA t s).1=true/\fN b (fA t s).1 s2 c s2 B
 | .done _,_,_,_,_,h=>⟨h.1,rfl,rfl,h.2⟩
 | .load _ k,_,_,_,_,h=>⟨h.1,rfl,rfl,h.2⟩
 | .oI _ _ _ k,s,s2,_,_,h=>⟨h.1,rfl,rfl,h.2.1,by have h1:=h.1;have h2:=h.2.2.1;rw[show s2.nodes=s.nodes by rw[h1]];exact h2,h.2.2.2⟩
 | .alloc n i k,s,_,_,ht,h=>fN.fA (t:=k ((s.nodes.length+1:Nat):Int)) ht h
 | .cell i k,s,_,_,ht,h=>fN.fA (t:=k ((s.cs.length+1:Nat):Int)) ht h
 | .gen k,s,_,_,ht,h=>fN.fA (t:=k (s.gen+1)) ht h
 | .node r k,s,_,_,ht,h=>fN.fA (t:=k (bU s.nodes r)) ht h.2
 | .stuck,_,_,_,ht,_=>(ht rfl).elim
end
section
variable{S:List (Nat×Value)}{w0 w:World}{M:List Nat}{H:List (Nat×Obj)}{A F:Fr}{O:List Ow}{ty:TypeId}{pos:String}{af:Array Edge}{gd:Option (Nat×Bool)}{X:Type}{V:X->Value}
theorem Wp{P:Program}{f:FuncId}{cap:wN}{os:List Operand}{at_:Array TypeId}{vs:List Value}{dst:Option Nat}{x:Operand}(hx:ev S x=.func (.func f) ⟨cap.bd⟩ ⟨cap.cp⟩)(hp:plain P f=true)(ha:lD S os=vs)(w:World) :
  (execOp (ev S) ⟨dst,.call {callee:=.value x,args:=⟨os⟩,argTypes:=at_},ty,pos,af,gd⟩).run P w=.ok (.enter f ⟨cap.bd++vs++cap.cp⟩) w:=by
 subst ha
 have hm:(os.map (ev S)).toArray=⟨lD S os⟩:=by rw[oR]
 simp[execOp,resolve,hx,Deferred.ofValue,invoke,lY hp,hm]
theorem oe{φ:X->Prop}{hs H':List (Nat×Obj)}{os O':List Ow}{hs' H1:X->List (Nat×Obj)}{os' O1:X->List Ow}{Fc F1:X->Fr}{A0:Fr}{is js:List Nat}{f:FuncId}{cap:wN}{xs:List Operand}{at_:Array TypeId}{vs:List Value}{dst:Option Nat}{x:Operand}
  (hx:ev S x=.func (.func f) ⟨cap.bd⟩ ⟨cap.cp⟩:=by exact rfl) (ha:lD S xs=vs:=by(repeat (first|exact cD _|(apply bK;focus ((conv=>{lhs;whnf});try exact rfl))));first|done|fail) (hp:plain Tryz.prog f=true)
  (hc:∀w,SF w (Ks hs os) hs A0 [] os w->Calls Tryz.prog f ⟨cap.bd++vs++cap.cp⟩ w λ e w'=>∃x,e=.returned (V x)/\φ x/\SF w (Ks hs os) (hs' x) [] (Fc x) (os' x) w')
  (hH:kX H is hs H':=by(repeat (first|exact kX.nil|(apply kX.cons;(focus ((repeat (first|exact wK.head|apply wK.tail));done));simp only[nW])));first|done|fail)
  (hO:kX O js os O':=by(repeat (first|exact kX.nil|(apply kX.cons;(focus ((repeat (first|exact wK.head|apply wK.tail));done));simp only[nW])));first|done|fail)
  (hA:cA A F O' A0:=by exact cA.of (λ _ h=>Or.inr (Or.inl h)))
  (hl1:∀x,is.length=(hs' x).length:=by intro x;exact rfl) (hl2:∀x,js.length=(os' x).length:=by intro x;exact rfl)
  (hH1:∀x,iR is (hs' x) H'=H1 x:=by intro x;first|(simp only[iR,oY];exact rfl)|exact rfl) (hF1:∀x,Fc x++F=F1 x:=by intro x;first|(simp only[List.nil_append,List.cons_append];exact rfl)|exact rfl) (hO1:∀x,iR js (os' x) O'=O1 x:=by intro x;simp only[iR,oY,mW];exact rfl) :
  aQ Tryz.prog S (SF w0 M H A F O) ⟨dst,.call {callee:=.value x,args:=⟨xs⟩,argTypes:=at_},ty,pos,af,gd⟩ X V (λ x w=>φ x/\SF w0 M (H1 x) A (F1 x) (O1 x) w) :=
 gH (Wp hx hp ha) λ w hw=>(hc w (hw.nZ hH hO hA)).mono λ _ _ ⟨x,he,hx,hs⟩=>⟨x,he,hx,by
  have:=hw.wE (hs':=hs' x) (Hc:=[]) (os':=os' x) (Oc:=[]) hH hO (by simpa using hs) (hl1 x) (hl2 x)
  rw[<- hH1 x,<- hF1 x,<- hO1 x]
  simpa using this⟩
end
end

/- Tasks: Done, Next, Result, Steps. -/
end Go.Proofs.YtnilhhnfjfdokaaGreatDoor
namespace Go.Ct
section
open Go Go.RowKit
theorem SF.same{w w':World}{b:Nat}{o:Obj}(h:SF w [b] [(b,o)] [] [] [] w')(hb:w.heap[b]?=some o):St w [] [] w' :=
 ⟨h.st.os,h.st.tape,h.st.output,h.st.size,λ k hk _=>by
  by_cases e:k=b
  ·subst e;rw[h.st.has (k,o) (List.mem_singleton.2 rfl),hb]
  ·exact h.st.iL k hk (by simpa using e),λ _ h=>(List.not_mem_nil h).elim,λ _ h=>(List.not_mem_nil h).elim,List.nodup_nil⟩
theorem SF.Td{w:World}{b:Nat}{o:Obj}(hb:w.heap[b]?=some o):SF w [b] [(b,o)] [] [] [] w :=
 ⟨⟨rfl,rfl,rfl,Nat.le_refl _,λ _ _ _=>rfl,λ p hp=>by rw[List.mem_singleton.1 hp];exact hb,λ p hp=>by rw[List.mem_singleton.1 hp];exact .inl (List.mem_singleton.2 rfl),by simp⟩,λ _ h=>(List.not_mem_nil h).elim,λ _ h=>(List.not_mem_nil h).elim,λ _ h=>(List.not_mem_nil h).elim,by simp[Ks]⟩
end
end Go.Ct
namespace Go.Proofs.YtnilhhnfjfdokaaGreatDoor
section
open Go Go.RowKit Go.Ct
abbrev qw(b:Nat)(c:Cd)(n:Nat)(z:Bool):List Value:=[.iface 61 (.pointer (some ⟨b,0,none⟩)),.int .i64 c.a.k,.int .i64 c.a.c,.int .i64 c.a.o,.int .i64 c.a.n,pf c.f,pf c.g,.int .i64 c.r.err,.bool c.r.found,.int .u64 c.r.val,.string c.r.key,.int .i64 c.r.iH,.int .i64 c.r.ref,.int .i64 c.r.root,.bool c.r.ro,.int .i64 ((n:Nat):Int),.bool z]
abbrev tO(b:Nat)(c:Cd)(n:Nat):Obj:=.cells ⟨qw b c n false⟩ 149 (0,0)
section
variable{D:List Nat}{A B:Fr}{L:List eY}{cs:List Int}{gen acc:Int}{pn pc:Option Addr}{cn cc b bt n:Nat}{w:World}{c:Cd}
theorem qF(h:w.heap[bt]?=some (tO b c n)):Calls Tryz.prog 34 #[.pointer (some ⟨bt,0,none⟩)] w λ e w'=>e=.returned (.bool (c.a.k==0))/\St w [] [] w':=by
 refine enter Tryz.func34 Tryz.ntmps34 rfl rfl (SF.Td h) ?_
 simp only[cP]
 refine dW ?_;refine Pj ?_;refine aK ?_;refine J3 ?_;refine K1 ?_
 refine bE Tryz.results34 (λ w hw=>?_)
 exact⟨rfl,hw.fV.same h⟩
theorem Bx(h:w.heap[bt]?=some (tO b c n)):Calls Tryz.prog 36 #[.pointer (some ⟨bt,0,none⟩)] w λ e w'=>e=.returned (.agg ⟨(if c.a.k=0 then c.r else Rs.zero).cells⟩)/\St w [] [] w':=by
 refine enter Tryz.func36 Tryz.ntmps36 rfl rfl (SF.Td h) ?_
 simp only[cP]
 refine J0 ?_;refine aI (λ x2=>?_);refine Kc8 ?_;refine aF (cV (hc:=λ w1 hw=>qF (hw.st.at bD))) (λ x4=>?_);refine wO ?_
 refine aU (λ c5=>?_) (λ c5=>?_)
 ·refine J0 ?_;refine Na ?_
  refine bV Tryz.results36 (λ w hw=>?_)
  refine⟨?_,hw.fV.same h⟩
  rw[if_neg (by simpa using c5)]
  rfl
 ·refine bB ?_;refine Pj ?_;refine aK ?_;refine aA (dE (k:=8) (vs:=c.r.cells) rf bD cY rfl rfl) rfl ?_;refine J5 ?_
  refine bV Tryz.results36 (λ w hw=>?_)
  refine⟨?_,hw.fV.same h⟩
  rw[if_pos (by simpa using c5)]
  rfl
end
end

/- Tasks on an arena: how they begin, how they go on. -/
end Go.Proofs.YtnilhhnfjfdokaaGreatDoor
namespace Go.Ct
section
open Go Go.RowKit
abbrev AS.G8(a:AS)(cs:List Int):AS:={a with cs:=cs,acc:=up a.acc}
theorem AS.Ok.G8{a:AS}(ok:a.Ok){x o n:Int}(hn:n<=a.mm.nodes.length):(a.G8 (dU a.cs x o n)).Ok:=⟨ok.fit,ok.mo.oI hn⟩
end
end Go.Ct
namespace Go.Proofs.YtnilhhnfjfdokaaGreatDoor
section
open Go Go.RowKit Go.Ct
section
variable{D:List Nat}{A B:Fr}{a:AS}{b bt n:Nat}{w:World}{c:Cd}{t:Tr}{f:FuncId}{cap:List Value}
theorem R5(h:Pb b t a.mm f cap B)(hns:Ns t a.mm)(ok:a.Ok)(hm:a.mm.jL)(hA:∀f∈dV a.L,f∈A)(hB:∀x∈B,x∈A)(hs:SF w D [(b,eN a),(a.u,a.po)] A [] (fD a) w) :
  Calls Tryz.prog 96 #[.func (.func f) #[] ⟨cap⟩] w (mS b (λ c' s' B'=>fN b t a.mm c' s' B') a B D w):=by
 obtain⟨hp,h⟩:=h
 refine Fk Tryz.func96 Tryz.ntmps96 rfl rfl hs ?_
 simp only[cP]
 refine eT ?_;refine dA ?_;refine nV (λ x2=>?_);refine fQ ?_;refine eT ?_;refine dA ?_;(refine fJ bN rfl ?_);refine wF rfl ?_;refine fQ ?_;refine eT ?_;refine eT ?_;refine dA ?_;refine jC ?_;refine fJ (F2 rf rf (na _ _ _)) rfl ?_;refine fQ ?_
 refine Ea (λ c5=>?_) (λ c5=>?_)
 ·exact nv c5
 ·revert c5;(skip);intro c5
  refine zQ ?_;refine eT ?_;refine dA ?_;refine jC ?_;refine oS (oe (V:=λ y:Cd×Fr×AS=>.agg ⟨y.1.cells⟩) (hs:=[(b,eN a),(a.u,a.po)]) (os:=fD a) (hs':=λ y=>[(b,eN y.2.2),(y.2.2.u,y.2.2.po)]) (os':=λ y=>fD y.2.2) (Fc:=λ y=>y.2.1) (A0:=A) (f:=f) (cap:=cap) (vs:=[]) (hp:=hp) (hc:=λ w1 hw=>h a.mm (Mm.Le.refl _) hns a _ A w1 rfl ok hm hA hB hw)) (λ x8 h8=>?_);refine zS (cE λ _=>aC rf bD rf (bA _) cY rf dI) (λ _=>?_);refine fQ ?_
  refine wC (Lv _) (by kernel_rfl) Tryz.results96 (.cell rf bD cY .nil) (λ w hw=>?_)
  exact⟨x8,rfl,h8,hw.ret (by repeat (first|exact List.Sublist.refl _|apply List.Sublist.cons)) (bL.dH λ f hf=>by simpa using hf) (List.Sublist.refl _)⟩
theorem Ca{x:Int}{k:Int->Tr}(hr:fN b (.load x k) a.mm c a.mm B)(hns:Ns (k (cW a.cs x)) a.mm)(ok:a.Ok)(hm:a.mm.jL)(hA:∀f∈dV a.L,f∈A)(hB:∀x∈B,x∈A)(hs:SF w D [(b,eN a),(a.u,a.po)] A [] (fD a) w) :
  Calls Tryz.prog 54 #[.iface 61 (.pointer (some ⟨b,0,none⟩)),.agg ⟨c.cells⟩] w (mS b (λ c' s' B'=>fN b (k (cW a.cs x)) a.mm c' s' B') a B D w):=by
 obtain⟨_,hx,f,cap,rfl,hp,hk⟩:=hr
 have hl:a.cs.length<=274877906944:=by have:=hm.2;show a.mm.cs.length<=_;omega
 have hv:cW a.cs x<=a.mm.nodes.length:=ok.mo.cell x
 refine Fk Tryz.func54 Tryz.ntmps54 rfl rfl hs ?_
 simp only[cP]
 refine eT ?_;refine dA ?_;refine Un (λ x3=>?_);refine nV (λ x4=>?_);refine fQ ?_;refine eT ?_;refine dA ?_;(refine fJ bN rfl ?_);refine wF rfl ?_;refine fQ ?_;refine eT ?_;refine dA ?_;refine eM ?_;refine fJ (dE (k:=4) (vs:=(kO x f cap).a.cells) rf bD cY rfl rfl) rfl ?_;refine nV (λ x5=>?_);refine Iq (λ _=>?_);refine fQ ?_;refine eT ?_;refine eT ?_;refine dA ?_;refine eM ?_;refine kW ?_;refine Rt ?_;refine fQ ?_
 refine Ea (λ c13=>?_) (λ c13=>?_)
 ·revert c13;(refine rl ?_);intro c13
  refine eT ?_;refine dA ?_;refine oX (λ _=>?_);refine fQ ?_;refine eT ?_;refine eT ?_;refine dA ?_;refine jC ?_;refine fJ (Fp rf rf (qS _)) rfl ?_;refine fQ ?_
  refine Ea (λ c15=>?_) (λ c15=>?_)
  ·revert c15;(skip);intro c15
   refine dA ?_;refine jC ?_;refine eM ?_;refine kW ?_;refine oS (Wu (V:=λ _:Unit=>.int .i64 (cW a.cs x)) (os':=λ _=>fD (a.G8 a.cs)) (hs':=λ _=>[(b,eN (a.G8 a.cs))]) (Fc:=λ _=>[]) (A0:=A) (hm:=λ w=>R1 _ _ w) (hc:=λ w hw=>Yn hw x hx hl)) (λ x19 h19=>?_);refine oX (λ _=>?_);refine fQ ?_;refine eT ?_;refine eT ?_;refine dA ?_;refine eM ?_;refine kW ?_;refine fJ (F2 rf rf (n5 _ _ _)) rfl ?_;refine fQ ?_
   refine Ea (λ c22=>?_) (λ c22=>?_)
   ·exact nv c22
   ·revert c22;(skip);intro c22
    refine zQ ?_;refine eT ?_;refine dA ?_;refine eM ?_;refine kW ?_;refine jC ?_;refine oS (oe (V:=λ y:Cd×Fr×AS=>.agg ⟨y.1.cells⟩) (hs:=[(b,eN (a.G8 a.cs)),((a.G8 a.cs).u,(a.G8 a.cs).po)]) (os:=fD (a.G8 a.cs)) (hs':=λ y=>[(b,eN y.2.2),(y.2.2.u,y.2.2.po)]) (os':=λ y=>fD y.2.2) (Fc:=λ y=>y.2.1) (A0:=A) (f:=f) (cap:=cap) (vs:=[.int .i64 (cW a.cs x)]) (hp:=hp) (hc:=λ w1 hw=>hk (cW a.cs x) a.mm (Mm.Le.refl _) hv hns (a.G8 a.cs) _ A w1 rfl ⟨ok.fit,ok.mo⟩ hm hA hB hw)) (λ x27 h27=>?_);refine zS (cE λ _=>aC rf bD rf (bA _) cY rf dI) (λ _=>?_);refine fQ ?_
    refine wC (tC _) (by kernel_rfl) Tryz.results54 (.cell rf bD cY .nil) (λ w hw=>?_)
    exact⟨x27,rfl,⟨h27.1,h27.2.1,⟨h27.2.2.le,h27.2.2.fam⟩⟩,hw.ret (by repeat (first|exact List.Sublist.refl _|apply List.Sublist.cons)) (bL.dH λ f hf=>by simpa using hf) (List.Sublist.refl _)⟩
  ·exact nv c15
 ·revert c13;(refine rh ?_);intro c13
  exact(c13 rfl).elim
theorem C0{x o n:Int}{k:Bool->Tr}(hr:fN b (.oI x o n k) a.mm c a.mm B)(hns:Ns (k (Dd a.cs x o)) ⟨a.mm.nodes,dU a.cs x o n,a.gen,a.pv⟩)(ok:a.Ok)(hm:a.mm.jL)(hA:∀f∈dV a.L,f∈A)(hB:∀x∈B,x∈A)(hs:SF w D [(b,eN a),(a.u,a.po)] A [] (fD a) w) :
  Calls Tryz.prog 54 #[.iface 61 (.pointer (some ⟨b,0,none⟩)),.agg ⟨c.cells⟩] w (mS b (λ c' s' B'=>fN b (k (Dd a.cs x o)) ⟨a.mm.nodes,dU a.cs x o n,a.gen,a.pv⟩ c' s' B') a B D w):=by
 obtain⟨_,hx,hn,f,cap,rfl,hp,hk⟩:=hr
 have hl:a.cs.length<=274877906944:=by have:=hm.2;show a.mm.cs.length<=_;omega
 have hle:a.mm.Le ⟨a.mm.nodes,dU a.cs x o n,a.gen,a.pv⟩:=⟨⟨⟨[],by simp⟩,by show a.cs.length<=(dU a.cs x o n).length;rw[fU];exact Nat.le_refl _⟩,rfl⟩
 have hm2:Mm.jL ⟨a.mm.nodes,dU a.cs x o n,a.gen,a.pv⟩:=⟨hm.1,by show(dU a.cs x o n).length<=_;rw[fU];exact hm.2⟩
 refine Fk Tryz.func54 Tryz.ntmps54 rfl rfl hs ?_
 simp only[cP]
 refine eT ?_;refine dA ?_;refine Un (λ x3=>?_);refine nV (λ x4=>?_);refine fQ ?_;refine eT ?_;refine dA ?_;(refine fJ bN rfl ?_);refine wF rfl ?_;refine fQ ?_;refine eT ?_;refine dA ?_;refine eM ?_;refine fJ (dE (k:=4) (vs:=(pG x o n f cap).a.cells) rf bD cY rfl rfl) rfl ?_;refine nV (λ x5=>?_);refine Iq (λ _=>?_);refine fQ ?_;refine eT ?_;refine eT ?_;refine dA ?_;refine eM ?_;refine kW ?_;refine Rt ?_;refine fQ ?_
 refine Ea (λ c13=>?_) (λ c13=>?_)
 ·revert c13;(refine rl ?_);intro c13
  exact absurd (show(2:Int)=1 from c13) (by decide)
 ·revert c13;(refine rh ?_);intro c13
  refine zQ ?_;refine eT ?_;refine dA ?_;refine jC ?_;refine fJ (Fp rf rf (qS _)) rfl ?_;refine jC ?_
  (refine qA ?_;refine jC ?_)
  ((refine qA ?_;refine eM ?_));((refine qA ?_;refine kW ?_));((refine qA ?_;refine eM ?_));((refine qA ?_;refine kW ?_));((refine qA ?_;refine eM ?_));((refine qA ?_;refine kW ?_));((refine qA ?_;refine oS (Wu (V:=Value.bool) (os':=λ _=>fD (a.G8 (dU a.cs x o n))) (hs':=λ _=>[(b,eN (a.G8 (dU a.cs x o n)))]) (Fc:=λ _=>[]) (A0:=A) (hm:=λ w=>Y9 _ _ _ _ w) (hc:=λ w hw=>fy hw x o n hx hl)) (λ x38 h38=>?_)));refine Xu ?_;refine oX (λ _=>?_);refine fQ ?_;refine eT ?_;refine eT ?_;refine dA ?_;refine eM ?_;refine kW ?_;refine fJ (F2 rf rf (ll _ _ _)) rfl ?_;refine fQ ?_
  refine Ea (λ c42=>?_) (λ c42=>?_)
  ·exact nv c42
  ·revert c42;(skip);intro c42
   refine zQ ?_;refine eT ?_;refine dA ?_;refine eM ?_;refine kW ?_;refine jC ?_;refine oS (oe (V:=λ y:Cd×Fr×AS=>.agg ⟨y.1.cells⟩) (hs:=[(b,eN (a.G8 (dU a.cs x o n))),((a.G8 (dU a.cs x o n)).u,(a.G8 (dU a.cs x o n)).po)]) (os:=fD (a.G8 (dU a.cs x o n))) (hs':=λ y=>[(b,eN y.2.2),(y.2.2.u,y.2.2.po)]) (os':=λ y=>fD y.2.2) (Fc:=λ y=>y.2.1) (A0:=A) (f:=f) (cap:=cap) (vs:=[.bool x38]) (hp:=hp) (hc:=λ w1 hw=>hk x38 _ hle ((Mz h38).symm▸hns) (a.G8 (dU a.cs x o n)) _ A w1 rfl (ok.G8 hn) hm2 hA hB hw)) (λ x47 h47=>?_);refine zS (cE λ _=>aC rf bD rf (bA _) cY rf dI) (λ _=>?_);refine fQ ?_
   refine wC (tC _) (by kernel_rfl) Tryz.results54 (.cell rf bD cY .nil) (λ w hw=>?_)
   exact⟨x47,rfl,⟨Mz h38▸h47.1,h47.2.1,⟨hle.le.trans h47.2.2.le,h47.2.2.fam⟩⟩,hw.ret (by repeat (first|exact List.Sublist.refl _|apply List.Sublist.cons)) (bL.dH λ f hf=>by simpa using hf) (List.Sublist.refl _)⟩
def oU(b:Nat)(p:Tr×Mm)(a:AS)(B:Fr)(y:Cd×Fr×AS):Prop:=(fN b p.1 y.2.2.mm y.1 y.2.2.mm (y.2.1++B)/\p.2.Up y.2.2.mm)/\y.2.2.Ok/\a.fG y.2.2 y.2.1
theorem oU.of{t0:Tr}{s0:Mm}{y:Cd×Fr×AS}(hn:Ns t0 s0)(h:fN b t0 s0 y.1 y.2.2.mm (y.2.1++B)/\y.2.2.Ok/\a.fG y.2.2 y.2.1):oU b (Ct.fA t0 s0) a B y/\fK (Ct.fA t0 s0).1=true:=by
 obtain⟨h1,h2,h3⟩:=fN.fA hn h.1
 exact⟨⟨⟨h3,h1⟩,h.2⟩,h2⟩
theorem Iz(hns:(kQ (t,a.mm)).1≠.stuck)(ha:fK t=true)(hlv:t.live=true)(hr:fN b t a.mm c a.mm B)(ok:a.Ok)(hm:a.mm.jL)(hA:∀f∈dV a.L,f∈A)(hB:∀x∈B,x∈A)(hs:SF w D [(b,eN a),(a.u,a.po)] A [] (fD a) w) :
  Calls Tryz.prog 54 #[.iface 61 (.pointer (some ⟨b,0,none⟩)),.agg ⟨c.cells⟩] w λ e w'=>∃y:Cd×Fr×AS,e=.returned (.agg ⟨y.1.cells⟩)/\(oU b (kQ (t,a.mm)) a B y/\fK (kQ (t,a.mm)).1=true)/\SF w D [(b,eN y.2.2),(y.2.2.u,y.2.2.po)] [] y.2.1 (fD y.2.2) w':=by
 cases t with
 | done r=>cases hlv
 | load x k=>exact(Ca hr hns ok hm hA hB hs).mono λ e w' ⟨y,he,h,hw⟩=>⟨y,he,oU.of hns h,hw⟩
 | oI x o n k=>exact(C0 hr hns ok hm hA hB hs).mono λ e w' ⟨y,he,h,hw⟩=>⟨y,he,oU.of hns h,hw⟩
 | alloc n i k=>cases ha
 | cell i k=>cases ha
 | gen k=>cases ha
 | node r k=>cases ha
 | stuck=>cases ha
theorem Ed(hns:(kQ (t,a.mm)).1≠.stuck)(ha:fK t=true)(hlv:t.live=true)(hr:fN b t a.mm c a.mm B)(ok:a.Ok)(hm:a.mm.jL)(hn:n<1000000000)(hA:∀f∈dV a.L,f∈A)(hB:∀x∈B,x∈A)(hs:SF w D [(bt,tO b c n),(b,eN a),(a.u,a.po)] A [] (fD a) w) :
  Calls Tryz.prog 33 #[.pointer (some ⟨bt,0,none⟩)] w λ e w'=>∃y:Cd×Fr×AS,e=.returned (.tuple #[])/\(oU b (kQ (t,a.mm)) a B y/\fK (kQ (t,a.mm)).1=true)/\SF w D [(bt,tO b y.1 (n+1)),(b,eN y.2.2),(y.2.2.u,y.2.2.po)] [] y.2.1 (fD y.2.2) w':=by
 have hk:c.a.k≠0:=λ e=>by have:=(hr.kind ha).1.1 e;rw[hlv] at this;cases this
 refine enter Tryz.func33 Tryz.ntmps33 rfl rfl hs ?_
 simp only[cP]
 refine gS ?_;refine aF (cV (hc:=λ w1 hw=>qF (hw.st.at bD))) (λ x3=>?_);refine aB ?_
 (refine lN 4 (λ g4=>?_) (λ g4=>?_)<;>(try (exfalso;omega))<;>((refine Ka2 ?_)))
 ((refine Kc3 ?_));refine J6 ?_;refine Kb0 ?_
 refine aU (λ c9=>?_) (λ c9=>?_)
 ·exact nv c9
 ·try (exfalso;omega)
  refine bB ?_;refine qg ?_;refine Jm ?_;refine oJ ?_;refine rD ?_;refine Ak ?_;refine aJ ?_;refine iM [0,1,2,3,4,5,6,7,8,9,10,11,12] ?_;refine Cy ?_;refine J9 ?_;refine aS (i:=8) (hq:=(dE (k:=14) (vs:=c.cells) rf bD cY rfl rfl)) (h:=?_);refine bS (i:=9) (hq:=(cM (V:=λ y:Cd×Fr×AS=>.agg ⟨y.1.cells⟩) (Fc:=λ y=>y.2.1) (hs:=[(b,eN a),(a.u,a.po)]) (os:=fD a) (A0:=A) (hs':=λ y=>[(b,eN y.2.2),(y.2.2.u,y.2.2.po)]) (os':=λ y=>fD y.2.2) (hc:=λ w hw=>Iz hns ha hlv hr ok hm hA hB hw))) (h:=λ x29 h29=>?_);refine J4 ?_;refine fE (i:=12) (hq:=(cE λ _=>lH (off:=1) (vs:=x29.1.cells) (cs:=qw b x29.1 (n+1) true) rf bD rf (bA _) cY (Nat.le_of_ble_eq_true rfl) rf dI)) (h:=λ _=>?_);refine dC ?_;refine Gt ?_;refine Ak ?_
  refine Ru Tryz.results33 (λ w hw=>?_)
  exact⟨x29,rfl,h29,hw.ret (List.Sublist.refl _) (bL.dH λ f hf=>by simpa using hf) (List.Sublist.refl _)⟩
theorem Tz(hns:Ns t a.mm)(h:Pb b t a.mm f cap B)(ok:a.Ok)(hm:a.mm.jL)(hA:∀f∈dV a.L,f∈A)(hB:∀x∈B,x∈A)(hs:SF w D [(b,eN a),(a.u,a.po)] A [] (fD a) w) :
  Calls Tryz.prog 69 #[.iface 61 (.pointer (some ⟨b,0,none⟩)),.func (.func f) #[] ⟨cap⟩] w λ e w'=>∃x:Nat×Cd×Fr×AS,e=.returned (.pointer (some ⟨x.1,0,none⟩))/\(oU b (Ct.fA t a.mm) a B x.2/\fK (Ct.fA t a.mm).1=true)/\SF w D [(x.1,tO b x.2.1 0),(b,eN x.2.2.2),(x.2.2.2.u,x.2.2.2.po)] [] x.2.2.1 (fD x.2.2.2) w':=by
 refine enter Tryz.func69 Tryz.ntmps69 rfl rfl hs ?_
 simp only[cP]
 refine Kd1 ?_;refine cK ?_;refine bF (λ x8=>?_);refine Ni ?_;refine aH (cM (V:=λ y:Cd×Fr×AS=>.agg ⟨y.1.cells⟩) (Fc:=λ y=>y.2.1) (hs:=[(b,eN a),(a.u,a.po)]) (os:=fD a) (A0:=A) (hs':=λ y=>[(b,eN y.2.2),(y.2.2.u,y.2.2.po)]) (os':=λ y=>fD y.2.2) (hc:=λ w1 hw=>R5 h hns ok hm hA hB hw)) (λ x11 h11=>?_);refine M2 ?_;refine aL (cE λ _=>lH (off:=1) (vs:=x11.1.cells) (cs:=qw b x11.1 0 false) rf bD rf (bA _) cY (Nat.le_of_ble_eq_true rfl) rf dI) (λ _=>?_);refine Kb8 ?_;refine J1 ?_
 refine bE Tryz.results69 (λ w hw=>?_)
 exact⟨(x8,x11),rfl,oU.of hns h11,hw.ret (List.Sublist.refl _) (bL.dH λ f hf=>by simpa using hf) (List.Sublist.refl _)⟩
end
end

end Go.Proofs.YtnilhhnfjfdokaaGreatDoor
