/- Merged. -/
import Derived.Test.YtdeecdfockjoiaaGreatDoorGSp1
import Derived.Test.YtdeecdfockjoiaaGreatDoorGRn0
import Derived.Test.YtdeecdfockjoiaaGreatDoorGAr5
import Derived.Test.YtdeecdfockjoiaaGreatDoorTp2
set_option linter.unusedSimpArgs false
set_option linter.unusedVariables false
namespace Go.Ct
open Go Go.RowKit
section
structure AS where
 L:List dW
 cs:List Int
 gen:Int
 acc:Int
 pn:Option Addr
 cn:Nat
 pc:Option Addr
 cc:Nat
 u:Nat
 po:Obj
 pl:Ow
abbrev AS.pv(a:AS):Pv:=((a.u,a.po),a.pl)
def AS.mm(a:AS):Mm:=⟨(aV a.L).map dW.c,a.cs,a.gen,a.pv⟩
structure Ub(s:Mm):Prop where
 nd:∀v∈s.nodes,oP s.nodes.length s.cs.length v
 cs:∀v∈s.cs,v<=s.nodes.length
 two:2<=s.nodes.length
structure AS.Ok(a:AS):Prop where
 fit:Fits a.L
 mo:Ub a.mm
structure Mm.Y3(s s1:Mm):Prop where
 nodes:∃N,s1.nodes=s.nodes++N
 cl:s.cs.length<=s1.cs.length
structure Mm.Le(s s1:Mm):Prop where
 le:s.Y3 s1
 pv:s1.pv=s.pv
def Mm.iL(s:Mm):Prop:=s.nodes.length<=137438953000/\s.cs.length<=137438953000
def Mm.Up(s s2:Mm):Prop:=s2=⟨s.nodes,s.cs,s.gen,s2.pv⟩
def Ns(t:Tr)(s:Mm):Prop:=(jT t s).1≠.stuck
structure yK where
 bd:List Value
 cp:List Value
instance:Coe (List Value) yK:=⟨λ l=>⟨[],l⟩⟩
def Mm.Small(s:Mm):Prop:=s.nodes.length<=137438953472/\s.cs.length<=137438953472
structure AS.fF(a a':AS)(F:Fr):Prop where
 le:a.mm.Y3 a'.mm
 fam:∀f∈dD a'.L,f.2=[]∨f∈dD a.L∨f∈F
variable{s t u:Mm}{r:Int}{a:AS}{F:Fr}
theorem Mm.Y3.refl(s:Mm):s.Y3 s:=⟨⟨[],by simp⟩,Nat.le_refl _⟩
theorem Mm.Y3.trans(h:s.Y3 t)(h2:t.Y3 u):s.Y3 u:=by obtain⟨⟨N,e⟩,c⟩:=h;obtain⟨⟨M,e2⟩,c2⟩:=h2;exact⟨⟨N++M,by rw[e2,e,List.append_assoc]⟩,Nat.le_trans c c2⟩
theorem Mm.Y3.len(h:s.Y3 t):s.nodes.length<=t.nodes.length:=by obtain⟨N,e⟩:=h.nodes;rw[e,List.length_append];omega
theorem Mm.Y3.nd(h:s.Y3 t)(hr:r<=s.nodes.length):aD t.nodes r=aD s.nodes r:=by obtain⟨N,e⟩:=h.nodes;rw[e];exact qE hr
theorem Mm.Le.refl(s:Mm):s.Le s:=⟨.refl s,rfl⟩
theorem Mm.Le.trans{s t u:Mm}(h:s.Le t)(h2:t.Le u):s.Le u:=⟨h.le.trans h2.le,h2.pv.trans h.pv⟩
theorem Mm.Le.len{s t:Mm}(h:s.Le t):s.nodes.length<=t.nodes.length:=h.le.len
theorem Mm.Le.nd{s t:Mm}(h:s.Le t){r:Int}(hr:r<=s.nodes.length):aD t.nodes r=aD s.nodes r:=h.le.nd hr
theorem Mm.Le.cl{s t:Mm}(h:s.Le t):s.cs.length<=t.cs.length:=h.le.cl
theorem Mm.iL.small(h:s.iL):s.Small:=⟨Nat.le_trans h.1 (by decide),Nat.le_trans h.2 (by decide)⟩
theorem AS.fF.refl(a:AS):a.fF a []:=⟨Mm.Y3.refl _,λ f hf=>.inr (.inl hf)⟩
theorem AS.fF.more{a':AS}{F':Fr}(h:a.fF a' F)(hs:∀f∈F,f∈F'):a.fF a' F':=⟨h.le,λ f hf=>(h.fam f hf).imp_right λ h=>h.imp_right λ h=>hs f h⟩
theorem AS.fF.trans{a b c:AS}{F G:Fr}(h:a.fF b F)(h2:b.fF c G):a.fF c (G++F):=⟨h.le.trans h2.le,λ f hf=>by
 rcases h2.fam f hf with h1|h1|h1;·exact .inl h1
 ·rcases h.fam f h1 with h1|h1|h1;·exact .inl h1
  ·exact .inr (.inl h1)
  ·exact .inr (.inr (List.mem_append_right _ h1))
 ·exact .inr (.inr (List.mem_append_left _ h1))⟩
theorem Ub.at(h:Ub s)(r:Int):oP s.nodes.length s.cs.length (aD s.nodes r):=by
 unfold aD;split;·refine h.nd _ ?_;rw[Gp,List.getElem?_eq_getElem (by omega)];exact List.getElem_mem _
 ·exact nh _ _
theorem Ub.cell(h:Ub s)(c:Int):aG s.cs c<=s.nodes.length:=by
 unfold aG;split;·exact My h.cs _
 ·exact fN _
theorem Ub.sJ(h:Ub s){c o n:Int}(hn:n<=s.nodes.length):Ub ⟨s.nodes,cU s.cs c o n,s.gen,s.pv⟩:=by
 refine⟨λ v hv=>by simp only[gO];exact h.nd v hv,λ v hv=>?_,h.two⟩;simp only[cU] at hv;split at hv
 ·rcases List.mem_or_eq_of_mem_set hv with hv|rfl;·exact h.cs v hv
  ·exact hn
 ·exact h.cs v hv
end
end Go.Ct
namespace Go.Proofs.YtdeecdfockjoiaaGreatDoor
open Go.Proofs.Tryz
open Go Go.RowKit Go.Ct
section
abbrev dV(a:AS):Obj:=aO a.L a.cs a.gen a.acc a.pn a.cn a.pc a.cc
abbrev kM(a:AS):List Ow:=mW a.L a.cs a.pn a.cn a.pc a.cc
abbrev Hv:Ow:=⟨none,[],0,0,1⟩
abbrev iS(a:AS):List Ow:=a.pl::kM a
def jP(b:Nat)(R:Cd->Mm->Fr->Prop)(a:AS)(B:Fr)(D:List Nat)(w:World):Ending->World->Prop:=λ e w'=>∃y:Cd×Fr×AS,e=.returned (.agg ⟨y.1.cells⟩)/\(R y.1 y.2.2.mm (y.2.1++B)/\y.2.2.Ok/\a.fF y.2.2 y.2.1)/\SF w D [(b,dV y.2.2),(y.2.2.u,y.2.2.po)] [] y.2.1 (iS y.2.2) w'
def Ec(b:Nat)(f:FuncId)(cap:yK)(arg:List Value)(B:Fr)(s:Mm)(R:Cd->Mm->Fr->Prop):Prop :=∀(a:AS) (D:List Nat) (A:Fr) (w:World),a.mm=s->a.Ok->s.iL->(∀f∈dD a.L,f∈A)->(∀f∈B,f∈A)->SF w D [(b,dV a),(a.u,a.po)] A [] (iS a) w->Calls prog f ⟨cap.bd++arg++cap.cp⟩ w (jP b R a B D w)
def eH(b:Nat):Tr->Mm->Cd->Mm->Fr->Prop
 | .done r,s,c,s2,_=>s.Up s2/\c=fE r
 | .load x k,s,c,s2,B=>s.Up s2/\x<=9223372036854775807/\∃f cap,c=nF x f cap/\plain prog f=true/\∀(v:Int) (s1:Mm),s2.Le s1->v<=s1.nodes.length->Ns (k v) s1->Ec b f ⟨[],cap⟩ [.int .i64 v] B s1 λ c' s' B'=>eH b (k v) s1 c' s' B'
 | .sJ x o n k,s,c,s2,B=>s.Up s2/\x<=9223372036854775807/\n<=s.nodes.length/\∃f cap,c=uK x o n f cap/\plain prog f=true/\∀(v:Bool) (s1:Mm),s2.Le s1->Ns (k v) s1->Ec b f ⟨[],cap⟩ [.bool v] B s1 λ c' s' B'=>eH b (k v) s1 c' s' B'
 | .alloc n i k,s,c,s2,B=>eH b (k ((s.nodes.length+1:Nat):Int)) (s.push n i) c s2 B
 | .cell i k,s,c,s2,B=>eH b (k ((s.cs.length+1:Nat):Int)) ⟨s.nodes,s.cs++[i],s.gen,s.pv⟩ c s2 B
 | .gen k,s,c,s2,B=>eH b (k (s.gen+1)) ⟨s.nodes,s.cs,s.gen+1,s.pv⟩ c s2 B
 | .node r k,s,c,s2,B=>r<=s.nodes.length/\eH b (k (aD s.nodes r)) s c s2 B
 | .stuck,_,_,_,_=>True
def tJ(b:Nat)(K:Int->Tr)(s:Mm)(f:FuncId)(cap:yK)(B:Fr):Prop:=plain prog f=true/\∀(v:Int) (s1:Mm),s.Le s1->v<=s1.nodes.length->Ns (K v) s1->Ec b f cap [.int .i64 v] B s1 λ c' s' B'=>eH b (K v) s1 c' s' B'
def O4(b:Nat)(K:Bool->Tr)(s:Mm)(f:FuncId)(cap:yK)(B:Fr):Prop:=plain prog f=true/\∀(v:Bool) (s1:Mm),s.Le s1->Ns (K v) s1->Ec b f cap [.bool v] B s1 λ c' s' B'=>eH b (K v) s1 c' s' B'
def Yq(b:Nat)(t:Tr)(s:Mm)(f:FuncId)(cap:yK)(B:Fr):Prop:=plain prog f=true/\∀s1:Mm,s.Le s1->Ns t s1->Ec b f cap [] B s1 λ c' s' B'=>eH b t s1 c' s' B'
section
variable{b:Nat}{f:FuncId}{cap:yK}{arg:List Value}{B B2:Fr}{s s1 s2:Mm}{t:Tr}{c:Cd}
theorem Ec.more{R R2:Cd->Mm->Fr->Prop}(h:Ec b f cap arg B s R)(hb:∀x∈B,x∈B2)(hR:∀c m C C2,(∀x∈C,x∈C2)->R c m C->R2 c m C2):Ec b f cap arg B2 s R2:=λ a D A w e1 ok hs h1 h2 hw =>
 (h a D A w e1 ok hs h1 (λ x hx=>h2 x (hb x hx)) hw).mono λ e w' ⟨y,he,⟨hr,h3⟩,hs⟩=>⟨y,he,⟨hR _ _ _ _ (λ x hx=>by
  rcases List.mem_append.1 hx with h1|h1;·exact List.mem_append_left _ h1
  ·exact List.mem_append_right _ (hb x h1)) hr,h3⟩,hs⟩
theorem eH.more:∀{t:Tr} {s s2:Mm} {c:Cd} {B B2:Fr},eH b t s c s2 B->(∀x∈B,x∈B2)->eH b t s c s2 B2
 | .done _,_,_,_,_,_,h,_=>h
 | .load _ k,_,_,_,_,_,⟨h0,h1,f,cap,h2,h3,h4⟩,hb=>⟨h0,h1,f,cap,h2,h3,λ v s1 l hv hn=>(h4 v s1 l hv hn).more hb λ _ _ _ _ hC h=>eH.more (t:=k v) h hC⟩
 | .sJ _ _ _ k,_,_,_,_,_,⟨h0,h1,hn,f,cap,h2,h3,h4⟩,hb=>⟨h0,h1,hn,f,cap,h2,h3,λ v s1 l hn=>(h4 v s1 l hn).more hb λ _ _ _ _ hC h=>eH.more (t:=k v) h hC⟩
 | .alloc n i k,s,_,_,_,_,h,hb=>eH.more (t:=k ((s.nodes.length+1:Nat):Int)) h hb
 | .cell i k,s,_,_,_,_,h,hb=>eH.more (t:=k ((s.cs.length+1:Nat):Int)) h hb
 | .gen k,s,_,_,_,_,h,hb=>eH.more (t:=k (s.gen+1)) h hb
 | .node r k,s,_,_,_,_,h,hb=>⟨h.1,eH.more (t:=k (aD s.nodes r)) h.2 hb⟩
 | .stuck,_,_,_,_,_,_,_=>trivial
theorem tJ.more{K:Int->Tr}(h:tJ b K s f cap B)(hb:∀x∈B,x∈B2):tJ b K s f cap B2:=⟨h.1,λ v s1 l hv hn=>(h.2 v s1 l hv hn).more hb λ _ _ _ _ hC h=>eH.more h hC⟩
theorem O4.more{K:Bool->Tr}(h:O4 b K s f cap B)(hb:∀x∈B,x∈B2):O4 b K s f cap B2:=⟨h.1,λ v s1 l hn=>(h.2 v s1 l hn).more hb λ _ _ _ _ hC h=>eH.more h hC⟩
theorem Yq.more(h:Yq b t s f cap B)(hb:∀x∈B,x∈B2):Yq b t s f cap B2:=⟨h.1,λ s1 l hn=>(h.2 s1 l hn).more hb λ _ _ _ _ hC h=>eH.more h hC⟩
theorem tJ.le{K:Int->Tr}(h:tJ b K s f cap B)(l:s.Le s1):tJ b K s1 f cap B:=⟨h.1,λ v s2 l2 hv=>h.2 v s2 (l.trans l2) hv⟩
theorem O4.le{K:Bool->Tr}(h:O4 b K s f cap B)(l:s.Le s1):O4 b K s1 f cap B:=⟨h.1,λ v s2 l2=>h.2 v s2 (l.trans l2)⟩
theorem Yq.le(h:Yq b t s f cap B)(l:s.Le s1):Yq b t s1 f cap B:=⟨h.1,λ s2 l2=>h.2 s2 (l.trans l2)⟩
theorem eH.kind(h:eH b t s c s2 B)(ha:fI t=true):(c.a.k=0↔t.live=false)/\(∀r,t=.done r->c.r=r)/\(∀x,t.acc=some x->c.a=x):=by
 cases t with
 | done r=>rw[h.2];exact⟨⟨λ _=>rfl,λ _=>rfl⟩,(λ r e=>by cases e;rfl),(λ x e=>nomatch e)⟩
 | load x k=>obtain⟨_,_,f,cap,e,_⟩:=h;rw[e];exact⟨⟨λ h=>absurd h (show(1:Int)≠0 by decide),(λ h=>nomatch h)⟩,(λ r e=>nomatch e),λ x e=>by cases e;rfl⟩
 | sJ x o n k=>obtain⟨_,_,_,f,cap,e,_⟩:=h;rw[e];exact⟨⟨λ h=>absurd h (show(2:Int)≠0 by decide),(λ h=>nomatch h)⟩,(λ r e=>nomatch e),λ x e=>by cases e;rfl⟩
 | alloc n i k=>cases ha
 | cell i k=>cases ha
 | gen k=>cases ha
 | node r k=>cases ha
 | stuck=>cases ha
theorem eH.le(h:eH b t s c s2 B)(ha:fI t=true)(l:s2.Le s1):eH b t s1 c s1 B:=by
 cases t with
 | done r=>exact⟨rfl,h.2⟩
 | load x k=>obtain⟨_,h1,f,cap,e,hp,hk⟩:=h;exact⟨rfl,h1,f,cap,e,hp,λ v s3 l3 hv hn=>hk v s3 (l.trans l3) hv hn⟩
 | sJ x o n k=>
  obtain⟨hu,h1,hn,f,cap,e,hp,hk⟩:=h;have hl:s2.nodes.length=s.nodes.length:=by rw[hu]
  exact⟨rfl,h1,by have:=l.len;omega,f,cap,e,hp,λ v s3 l3 hn=>hk v s3 (l.trans l3) hn⟩
 | alloc n i k=>cases ha
 | cell i k=>cases ha
 | gen k=>cases ha
 | node r k=>cases ha
 | stuck=>cases ha
theorem eH.jT:∀{t:Tr} {s s2:Mm} {c:Cd},Ns t s->eH b t s c s2 B->(jT t s).2.Up s2/\fI (jT t s).1=true/\eH b (jT t s).1 s2 c s2 B
 | .done _,_,_,_,_,h=>⟨h.1,rfl,rfl,h.2⟩
 | .load _ k,_,_,_,_,h=>⟨h.1,rfl,rfl,h.2⟩
 | .sJ _ _ _ k,s,s2,_,_,h=>⟨h.1,rfl,rfl,h.2.1,by have h1:=h.1;have h2:=h.2.2.1;rw[show s2.nodes=s.nodes by rw[h1]];exact h2,h.2.2.2⟩
 | .alloc n i k,s,_,_,ht,h=>eH.jT (t:=k ((s.nodes.length+1:Nat):Int)) ht h
 | .cell i k,s,_,_,ht,h=>eH.jT (t:=k ((s.cs.length+1:Nat):Int)) ht h
 | .gen k,s,_,_,ht,h=>eH.jT (t:=k (s.gen+1)) ht h
 | .node r k,s,_,_,ht,h=>eH.jT (t:=k (aD s.nodes r)) ht h.2
 | .stuck,_,_,_,ht,_=>(ht rfl).elim
end
section
variable{S:List (Nat×Value)}{w0 w:World}{M:List Nat}{H:List (Nat×Obj)}{A F:Fr}{O:List Ow}{ty:TypeId}{pos:String}{af:Array Edge}{gd:Option (Nat×Bool)}{X:Type}{V:X->Value}
variable{f:FuncId}{cap:yK}{at_:Array TypeId}{vs:List Value}{dst:Option Nat}{x:Operand}
theorem cq{P:Program}{os:List Operand}(hx:ev S x=.func (.func f) ⟨cap.bd⟩ ⟨cap.cp⟩)(hp:plain P f=true)(ha:nZ S os=vs)(w:World) :
  (execOp (ev S) ⟨dst,.call {callee:=.value x,args:=⟨os⟩,argTypes:=at_},ty,pos,af,gd⟩).run P w=.ok (.enter f ⟨cap.bd++vs++cap.cp⟩) w:=by
 subst ha;have hm:(os.map (ev S)).toArray=⟨nZ S os⟩:=by rw[tE]
 simp[execOp,resolve,hx,Deferred.ofValue,invoke,pB hp,hm]
theorem cMf{φ:X->Prop}{hs H':List (Nat×Obj)}{os O':List Ow}{hs' H1:X->List (Nat×Obj)}{os' O1:X->List Ow}{Fc F1:X->Fr}{A0:Fr}{is js:List Nat}{xs:List Operand}(hx:ev S x=.func (.func f) ⟨cap.bd⟩ ⟨cap.cp⟩:=by exact rfl)(ha:nZ S xs=vs:=by(repeat (first|exact cB _|(apply bK;focus ((conv=>{lhs;whnf});try exact rfl))));first|done|fail)(hp:plain prog f=true)(hc:∀w,SF w (Ks hs os) hs A0 [] os w->Calls prog f ⟨cap.bd++vs++cap.cp⟩ w λ e w'=>∃x,e=.returned (V x)/\φ x/\SF w (Ks hs os) (hs' x) [] (Fc x) (os' x) w')(hH:nW H is hs H':=by(repeat (first|exact nW.nil|(apply nW.cons;(focus ((repeat (first|exact Cf.head|apply Cf.tail));done));simp only[rW])));first|done|fail)(hO:nW O js os O':=by(repeat (first|exact nW.nil|(apply nW.cons;(focus ((repeat (first|exact Cf.head|apply Cf.tail));done));simp only[rW])));first|done|fail)(hA:bV A F O' A0:=by exact bV.of (λ _ h=>Or.inr (Or.inl h)))(hl1:∀x,is.length=(hs' x).length:=by intro x;exact rfl)(hl2:∀x,js.length=(os' x).length:=by intro x;exact rfl)(hH1:∀x,kS is (hs' x) H'=H1 x:=by intro x;first|(simp only[kS,sX];exact rfl)|exact rfl)(hF1:∀x,Fc x++F=F1 x:=by intro x;first|(simp only[List.nil_append,List.cons_append];exact rfl)|exact rfl)(hO1:∀x,kS js (os' x) O'=O1 x:=by intro x;simp only[kS,sX,mW];exact rfl) :
  aW prog S (SF w0 M H A F O) ⟨dst,.call {callee:=.value x,args:=⟨xs⟩,argTypes:=at_},ty,pos,af,gd⟩ X V (λ x w=>φ x/\SF w0 M (H1 x) A (F1 x) (O1 x) w) :=
 iJ (cq hx hp ha) λ w hw=>(hc w (hw.sD hH hO hA)).mono λ _ _ ⟨x,he,hx,hs⟩=>⟨x,he,hx,by have:=hw.Ao (hs':=hs' x) (Hc:=[]) (os':=os' x) (Oc:=[]) hH hO (by simpa using hs) (hl1 x) (hl2 x);rw[<- hH1 x,<- hF1 x,<- hO1 x];simpa using this⟩
end
end
end Go.Proofs.YtdeecdfockjoiaaGreatDoor
namespace Go.Ct
open Go Go.RowKit
section
theorem SF.same{w w':World}{b:Nat}{o:Obj}(h:SF w [b] [(b,o)] [] [] [] w')(hb:w.heap[b]?=some o):St w [] [] w' :=
 ⟨h.st.os,h.st.tape,h.st.output,h.st.size,λ k hk _=>by
  by_cases e:k=b;·subst e;rw[h.st.has (k,o) (List.mem_singleton.2 rfl),hb]
  ·exact h.st.iT k hk (by simpa using e),λ _ h=>(List.not_mem_nil h).elim,λ _ h=>(List.not_mem_nil h).elim,List.nodup_nil⟩
theorem SF.Xn{w:World}{b:Nat}{o:Obj}(hb:w.heap[b]?=some o):SF w [b] [(b,o)] [] [] [] w :=⟨⟨rfl,rfl,rfl,Nat.le_refl _,λ _ _ _=>rfl,λ p hp=>by rw[List.mem_singleton.1 hp];exact hb,λ p hp=>by rw[List.mem_singleton.1 hp];exact .inl (List.mem_singleton.2 rfl),by simp⟩,λ _ h=>(List.not_mem_nil h).elim,λ _ h=>(List.not_mem_nil h).elim,λ _ h=>(List.not_mem_nil h).elim,by simp[Ks]⟩
end
end Go.Ct
namespace Go.Proofs.YtdeecdfockjoiaaGreatDoor
open Go.Proofs.Tryz
open Go Go.RowKit Go.Ct
section
abbrev tkC(b:Nat)(c:Cd)(n:Nat)(z:Bool):List Value:=[.iface 63 (.pointer (some ⟨b,0,none⟩)),.int .i64 c.a.k,.int .i64 c.a.c,.int .i64 c.a.o,.int .i64 c.a.n,fnV c.f,fnV c.g,.int .i64 c.r.err,.bool c.r.found,.int .u64 c.r.val,.string c.r.key,.int .i64 c.r.jG,.int .i64 c.r.ref,.int .i64 c.r.root,.bool c.r.ro,.int .i64 ((n:Nat):Int),.bool z]
abbrev tO(b:Nat)(c:Cd)(n:Nat):Obj:=.cells ⟨tkC b c n false⟩ 120 (0,0)
section
variable{D:List Nat}{A B:Fr}{L:List dW}{cs:List Int}{gen acc:Int}{pn pc:Option Addr}{cn cc b bt n:Nat}{w:World}{c:Cd}
theorem vM(h:w.heap[bt]?=some (tO b c n)):Calls prog 28 #[.pointer (some ⟨bt,0,none⟩)] w λ e w'=>e=.returned (.bool (c.a.k==0))/\St w [] [] w':=by refine enter func28 ntmps28 rfl rfl (SF.Xn h) ?_;simp only[cN];refine eD ?_;refine Pc ?_;refine aQ ?_;refine J3 ?_;refine Sx ?_;refine bJ results28 (λ w hw=>?_);exact⟨rfl,hw.fS.same h⟩
theorem Hd(h:w.heap[bt]?=some (tO b c n)):Calls prog 30 #[.pointer (some ⟨bt,0,none⟩)] w λ e w'=>e=.returned (.agg ⟨(if c.a.k=0 then c.r else Rs.zero).cells⟩)/\St w [] [] w':=by
 refine enter func30 ntmps30 rfl rfl (SF.Xn h) ?_;simp only[cN];refine J0 ?_;refine aJ (λ x2=>?_);refine Ke3 ?_;refine aH (cV (hc:=λ w1 hw=>vM (hw.st.at bI))) (λ x4=>?_);refine pU ?_;refine aX (λ c5=>?_) (λ c5=>?_);·refine J0 ?_;refine Sv ?_;refine bF results30 (λ w hw=>?_);refine⟨?_,hw.fS.same h⟩;rw[if_neg (by simpa using c5)];rfl
 ·refine bG ?_;refine Pc ?_;refine aQ ?_;refine aA (cJ (k:=8) (vs:=c.r.cells) rf bI cY rfl rfl) rfl ?_;refine J5 ?_;refine bF results30 (λ w hw=>?_);refine⟨?_,hw.fS.same h⟩;rw[if_pos (by simpa using c5)];rfl
end
end
end Go.Proofs.YtdeecdfockjoiaaGreatDoor
namespace Go.Ct
open Go Go.RowKit
section
abbrev AS.Rm(a:AS)(cs:List Int):AS:={a with cs:=cs,acc:=up a.acc}
theorem AS.Ok.Rm{a:AS}(ok:a.Ok){x o n:Int}(hn:n<=a.mm.nodes.length):(a.Rm (cU a.cs x o n)).Ok:=⟨ok.fit,ok.mo.sJ hn⟩
end
end Go.Ct
namespace Go.Proofs.YtdeecdfockjoiaaGreatDoor
open Go.Proofs.Tryz
open Go Go.RowKit Go.Ct
section
section
variable{D:List Nat}{A B:Fr}{a:AS}{b bt n:Nat}{w:World}{c:Cd}{t:Tr}{f:FuncId}{cap:List Value}
theorem lp(h:Yq b t a.mm f cap B)(hns:Ns t a.mm)(ok:a.Ok)(hm:a.mm.iL)(hA:∀f∈dD a.L,f∈A)(hB:∀x∈B,x∈A)(hs:SF w D [(b,dV a),(a.u,a.po)] A [] (iS a) w) :
  Calls prog 89 #[.func (.func f) #[] ⟨cap⟩] w (jP b (λ c' s' B'=>eH b t a.mm c' s' B') a B D w):=by
 obtain⟨hp,h⟩:=h;refine Ny func89 ntmps89 rfl rfl hs ?_;simp only[cN];refine K2a ?_;refine sB (λ x2=>?_);refine K1y ?_;refine K2a ?_;refine lC ?_;refine gL (Mi rf rf (aB9 _ _ _)) rfl ?_;refine iA ?_;refine Lm (λ c5=>?_) (λ c5=>?_);·exact nv c5
 ·revert c5;(skip);intro c5;refine Fo ?_;refine K2a ?_;refine lC ?_;refine tD (cMf (V:=λ y:Cd×Fr×AS=>.agg ⟨y.1.cells⟩) (hs:=[(b,dV a),(a.u,a.po)]) (os:=iS a) (hs':=λ y=>[(b,dV y.2.2),(y.2.2.u,y.2.2.po)]) (os':=λ y=>iS y.2.2) (Fc:=λ y=>y.2.1) (A0:=A) (f:=f) (cap:=cap) (vs:=[]) (hp:=hp) (hc:=λ w1 hw=>h a.mm (Mm.Le.refl _) hns a _ A w1 rfl ok hm hA hB hw)) (λ x8 h8=>?_);refine F3 (cC λ _=>aC rf bI rf (aY _) cY rf dM) (λ _=>?_);refine iA ?_;refine A6 (T7 _) (by kernel_rfl) results89 (.cell rf bI cY .nil) (λ w hw=>?_);exact⟨x8,rfl,h8,hw.ret E0a (bM.dB λ f hf=>by simpa using hf) (List.Sublist.refl _)⟩
theorem Gm{x:Int}{k:Int->Tr}(hr:eH b (.load x k) a.mm c a.mm B)(hns:Ns (k (aG a.cs x)) a.mm)(ok:a.Ok)(hm:a.mm.iL)(hA:∀f∈dD a.L,f∈A)(hB:∀x∈B,x∈A)(hs:SF w D [(b,dV a),(a.u,a.po)] A [] (iS a) w) :
  Calls prog 44 #[.iface 63 (.pointer (some ⟨b,0,none⟩)),.agg ⟨c.cells⟩] w (jP b (λ c' s' B'=>eH b (k (aG a.cs x)) a.mm c' s' B') a B D w):=by
 obtain⟨_,hx,f,cap,rfl,hp,hk⟩:=hr;have hl:a.cs.length<=274877906944:=by have:=hm.2;show a.mm.cs.length<=_;omega
 have hv:aG a.cs x<=a.mm.nodes.length:=ok.mo.cell x;refine Ny func44 ntmps44 rfl rfl hs ?_;simp only[cN]
 refine K2a ?_;refine ic (λ x3=>?_);refine sB (λ x4=>?_);refine K1y ?_;refine dX ?_;refine fL ?_;refine gL (cJ (k:=4) (vs:=(nF x f cap).a.cells) rf bI cY rfl rfl) rfl ?_;refine sB (λ x5=>?_);refine Q3 (λ _=>?_);refine K4b ?_;refine o8 ?_;refine iA ?_;refine Lm (λ c13=>?_) (λ c13=>?_)
 ·revert c13;(refine cv1 ?_);intro c13;refine K2a ?_;refine sZ (λ _=>?_);refine iA ?_;refine fT ?_;refine K2a ?_;refine lC ?_;refine gL (Mr rf rf (vA _)) rfl ?_;refine iA ?_;refine Lm (λ c15=>?_) (λ c15=>?_)
  ·revert c15;(skip);intro c15;refine dX ?_;refine lC ?_;refine fL ?_;refine nU ?_;refine tD (Ju (V:=λ _:Unit=>.int .i64 (aG a.cs x)) (os':=λ _=>kM (a.Rm a.cs)) (hs':=λ _=>[(b,dV (a.Rm a.cs))]) (Fc:=λ _=>[]) (A0:=A) (hm:=λ w=>ou _ _ w) (hc:=λ w hw=>vw hw x hx hl)) (λ x19 h19=>?_);refine sZ (λ _=>?_);refine K4b ?_;refine gL (Mi rf rf (aDe _ _ _)) rfl ?_;refine iA ?_;refine Lm (λ c22=>?_) (λ c22=>?_);·exact nv c22
   ·revert c22;(skip);intro c22;refine Fo ?_;refine K2a ?_;refine fL ?_;refine nU ?_;refine lC ?_;refine tD (cMf (V:=λ y:Cd×Fr×AS=>.agg ⟨y.1.cells⟩) (hs:=[(b,dV (a.Rm a.cs)),((a.Rm a.cs).u,(a.Rm a.cs).po)]) (os:=iS (a.Rm a.cs)) (hs':=λ y=>[(b,dV y.2.2),(y.2.2.u,y.2.2.po)]) (os':=λ y=>iS y.2.2) (Fc:=λ y=>y.2.1) (A0:=A) (f:=f) (cap:=cap) (vs:=[.int .i64 (aG a.cs x)]) (hp:=hp) (hc:=λ w1 hw=>hk (aG a.cs x) a.mm (Mm.Le.refl _) hv hns (a.Rm a.cs) _ A w1 rfl ⟨ok.fit,ok.mo⟩ hm hA hB hw)) (λ x27 h27=>?_);refine F3 (cC λ _=>aC rf bI rf (aY _) cY rf dM) (λ _=>?_);refine iA ?_;refine A6 (yD _) (by kernel_rfl) results44 (.cell rf bI cY .nil) (λ w hw=>?_);exact⟨x27,rfl,⟨h27.1,h27.2.1,⟨h27.2.2.le,h27.2.2.fam⟩⟩,hw.ret E0a (bM.dB λ f hf=>by simpa using hf) (List.Sublist.refl _)⟩
  ·exact nv c15
 ·revert c13;(refine cv2 ?_);intro c13;exact(c13 rfl).elim
theorem Ki{x o n:Int}{k:Bool->Tr}(hr:eH b (.sJ x o n k) a.mm c a.mm B)(hns:Ns (k (Jx a.cs x o)) ⟨a.mm.nodes,cU a.cs x o n,a.gen,a.pv⟩)(ok:a.Ok)(hm:a.mm.iL)(hA:∀f∈dD a.L,f∈A)(hB:∀x∈B,x∈A)(hs:SF w D [(b,dV a),(a.u,a.po)] A [] (iS a) w) :
  Calls prog 44 #[.iface 63 (.pointer (some ⟨b,0,none⟩)),.agg ⟨c.cells⟩] w (jP b (λ c' s' B'=>eH b (k (Jx a.cs x o)) ⟨a.mm.nodes,cU a.cs x o n,a.gen,a.pv⟩ c' s' B') a B D w):=by
 obtain⟨_,hx,hn,f,cap,rfl,hp,hk⟩:=hr;have hl:a.cs.length<=274877906944:=by have:=hm.2;show a.mm.cs.length<=_;omega
 have hle:a.mm.Le ⟨a.mm.nodes,cU a.cs x o n,a.gen,a.pv⟩:=⟨⟨⟨[],by simp⟩,by show a.cs.length<=(cU a.cs x o n).length;rw[gO];exact Nat.le_refl _⟩,rfl⟩;have hm2:Mm.iL ⟨a.mm.nodes,cU a.cs x o n,a.gen,a.pv⟩:=⟨hm.1,by show(cU a.cs x o n).length<=_;rw[gO];exact hm.2⟩;refine Ny func44 ntmps44 rfl rfl hs ?_;simp only[cN]
 refine K2a ?_;refine ic (λ x3=>?_);refine sB (λ x4=>?_);refine K1y ?_;refine dX ?_;refine fL ?_;refine gL (cJ (k:=4) (vs:=(uK x o n f cap).a.cells) rf bI cY rfl rfl) rfl ?_;refine sB (λ x5=>?_);refine Q3 (λ _=>?_);refine K4b ?_;refine o8 ?_;refine iA ?_;refine Lm (λ c13=>?_) (λ c13=>?_);·revert c13;(refine cv1 ?_);intro c13;exact absurd (show(2:Int)=1 from c13) (by decide)
 ·revert c13;(refine cv2 ?_);intro c13;refine Fo ?_;refine K2a ?_;refine lC ?_;refine gL (Mr rf rf (vA _)) rfl ?_;refine lC ?_;(refine vH ?_;refine lC ?_);((refine vH ?_;refine fL ?_));((refine vH ?_;refine nU ?_));((refine vH ?_;refine fL ?_));((refine vH ?_;refine nU ?_));((refine vH ?_;refine fL ?_));((refine vH ?_;refine nU ?_));((refine vH ?_;refine tD (Ju (V:=Value.bool) (os':=λ _=>kM (a.Rm (cU a.cs x o n))) (hs':=λ _=>[(b,dV (a.Rm (cU a.cs x o n)))]) (Fc:=λ _=>[]) (A0:=A) (hm:=λ w=>wo _ _ _ _ w) (hc:=λ w hw=>aBl hw x o n hx hl)) (λ x38 h38=>?_)));refine rv ?_;refine sZ (λ _=>?_);refine K4b ?_;refine gL (Mi rf rf (aB8 _ _ _)) rfl ?_;refine iA ?_;refine Lm (λ c42=>?_) (λ c42=>?_);·exact nv c42
  ·revert c42;(skip);intro c42;refine Fo ?_;refine K2a ?_;refine fL ?_;refine nU ?_;refine lC ?_;refine tD (cMf (V:=λ y:Cd×Fr×AS=>.agg ⟨y.1.cells⟩) (hs:=[(b,dV (a.Rm (cU a.cs x o n))),((a.Rm (cU a.cs x o n)).u,(a.Rm (cU a.cs x o n)).po)]) (os:=iS (a.Rm (cU a.cs x o n))) (hs':=λ y=>[(b,dV y.2.2),(y.2.2.u,y.2.2.po)]) (os':=λ y=>iS y.2.2) (Fc:=λ y=>y.2.1) (A0:=A) (f:=f) (cap:=cap) (vs:=[.bool x38]) (hp:=hp) (hc:=λ w1 hw=>hk x38 _ hle ((Wo h38).symm▸hns) (a.Rm (cU a.cs x o n)) _ A w1 rfl (ok.Rm hn) hm2 hA hB hw)) (λ x47 h47=>?_);refine F3 (cC λ _=>aC rf bI rf (aY _) cY rf dM) (λ _=>?_);refine iA ?_;refine A6 (yD _) (by kernel_rfl) results44 (.cell rf bI cY .nil) (λ w hw=>?_);exact⟨x47,rfl,⟨Wo h38▸h47.1,h47.2.1,⟨hle.le.trans h47.2.2.le,h47.2.2.fam⟩⟩,hw.ret E0a (bM.dB λ f hf=>by simpa using hf) (List.Sublist.refl _)⟩
def qL(b:Nat)(p:Tr×Mm)(a:AS)(B:Fr)(y:Cd×Fr×AS):Prop:=(eH b p.1 y.2.2.mm y.1 y.2.2.mm (y.2.1++B)/\p.2.Up y.2.2.mm)/\y.2.2.Ok/\a.fF y.2.2 y.2.1
theorem qL.of{t0:Tr}{s0:Mm}{y:Cd×Fr×AS}(hn:Ns t0 s0)(h:eH b t0 s0 y.1 y.2.2.mm (y.2.1++B)/\y.2.2.Ok/\a.fF y.2.2 y.2.1):qL b (Ct.jT t0 s0) a B y/\fI (Ct.jT t0 s0).1=true:=by obtain⟨h1,h2,h3⟩:=eH.jT hn h.1;exact⟨⟨⟨h3,h1⟩,h.2⟩,h2⟩
theorem Qn(hns:(mC (t,a.mm)).1≠.stuck)(ha:fI t=true)(hlv:t.live=true)(hr:eH b t a.mm c a.mm B)(ok:a.Ok)(hm:a.mm.iL)(hA:∀f∈dD a.L,f∈A)(hB:∀x∈B,x∈A)(hs:SF w D [(b,dV a),(a.u,a.po)] A [] (iS a) w) :
  Calls prog 44 #[.iface 63 (.pointer (some ⟨b,0,none⟩)),.agg ⟨c.cells⟩] w λ e w'=>∃y:Cd×Fr×AS,e=.returned (.agg ⟨y.1.cells⟩)/\(qL b (mC (t,a.mm)) a B y/\fI (mC (t,a.mm)).1=true)/\SF w D [(b,dV y.2.2),(y.2.2.u,y.2.2.po)] [] y.2.1 (iS y.2.2) w':=by
 cases t with
 | done r=>cases hlv
 | load x k=>exact(Gm hr hns ok hm hA hB hs).mono λ e w' ⟨y,he,h,hw⟩=>⟨y,he,qL.of hns h,hw⟩
 | sJ x o n k=>exact(Ki hr hns ok hm hA hB hs).mono λ e w' ⟨y,he,h,hw⟩=>⟨y,he,qL.of hns h,hw⟩
 | alloc n i k=>cases ha
 | cell i k=>cases ha
 | gen k=>cases ha
 | node r k=>cases ha
 | stuck=>cases ha
theorem Ly(hns:(mC (t,a.mm)).1≠.stuck)(ha:fI t=true)(hlv:t.live=true)(hr:eH b t a.mm c a.mm B)(ok:a.Ok)(hm:a.mm.iL)(hn:n<1000000000)(hA:∀f∈dD a.L,f∈A)(hB:∀x∈B,x∈A)(hs:SF w D [(bt,tO b c n),(b,dV a),(a.u,a.po)] A [] (iS a) w) :
  Calls prog 27 #[.pointer (some ⟨bt,0,none⟩)] w λ e w'=>∃y:Cd×Fr×AS,e=.returned (.tuple #[])/\(qL b (mC (t,a.mm)) a B y/\fI (mC (t,a.mm)).1=true)/\SF w D [(bt,tO b y.1 (n+1)),(b,dV y.2.2),(y.2.2.u,y.2.2.po)] [] y.2.1 (iS y.2.2) w':=by
 have hk:c.a.k≠0:=λ e=>by have:=(hr.kind ha).1.1 e;rw[hlv] at this;cases this
 refine enter func27 ntmps27 rfl rfl hs ?_;simp only[cN];refine gQ ?_;refine aH (cV (hc:=λ w1 hw=>vM (hw.st.at bI))) (λ x3=>?_);refine aB ?_;(refine mN 4 (λ g4=>?_) (λ g4=>?_)<;>(try (exfalso;omega))<;>((refine Ka2 ?_)));((refine Kc9 ?_));refine J6 ?_;refine Kb1 ?_;refine aX (λ c9=>?_) (λ c9=>?_);·exact nv c9
 ·try (exfalso;omega)
  refine bG ?_;refine J13 ?_;refine Qd ?_;refine qQ ?_;refine tZ ?_;refine E4 ?_;refine aL ?_;refine fO [0,1,2,3,4,5,6,7,8,9,10,11,12] ?_;refine Em ?_;refine J9 ?_;refine aS (i:=8) (hq:=(cJ (k:=14) (vs:=c.cells) rf bI cY rfl rfl)) (h:=?_);refine bE (i:=9) (hq:=(cM (V:=λ y:Cd×Fr×AS=>.agg ⟨y.1.cells⟩) (Fc:=λ y=>y.2.1) (hs:=[(b,dV a),(a.u,a.po)]) (os:=iS a) (A0:=A) (hs':=λ y=>[(b,dV y.2.2),(y.2.2.u,y.2.2.po)]) (os':=λ y=>iS y.2.2) (hc:=λ w hw=>Qn hns ha hlv hr ok hm hA hB hw))) (h:=λ x29 h29=>?_);refine J4 ?_;refine eT (i:=12) (hq:=(cC λ _=>oF (off:=1) (vs:=x29.1.cells) (cs:=tkC b x29.1 (n+1) true) rf bI rf (aY _) cY (Nat.le_of_ble_eq_true rfl) rf dM)) (h:=λ _=>?_);refine dA ?_;refine Cg ?_;refine E4 ?_;refine Qb results27 (λ w hw=>?_);exact⟨x29,rfl,h29,hw.ret (List.Sublist.refl _) (bM.dB λ f hf=>by simpa using hf) (List.Sublist.refl _)⟩
theorem jg(hns:Ns t a.mm)(h:Yq b t a.mm f cap B)(ok:a.Ok)(hm:a.mm.iL)(hA:∀f∈dD a.L,f∈A)(hB:∀x∈B,x∈A)(hs:SF w D [(b,dV a),(a.u,a.po)] A [] (iS a) w) :
  Calls prog 58 #[.iface 63 (.pointer (some ⟨b,0,none⟩)),.func (.func f) #[] ⟨cap⟩] w λ e w'=>∃x:Nat×Cd×Fr×AS,e=.returned (.pointer (some ⟨x.1,0,none⟩))/\(qL b (Ct.jT t a.mm) a B x.2/\fI (Ct.jT t a.mm).1=true)/\SF w D [(x.1,tO b x.2.1 0),(b,dV x.2.2.2),(x.2.2.2.u,x.2.2.2.po)] [] x.2.2.1 (iS x.2.2.2) w':=by refine enter func58 ntmps58 rfl rfl hs ?_;simp only[cN];refine Kd3 ?_;refine cI ?_;refine bC (λ x8=>?_);refine Jo ?_;refine aI (cM (V:=λ y:Cd×Fr×AS=>.agg ⟨y.1.cells⟩) (Fc:=λ y=>y.2.1) (hs:=[(b,dV a),(a.u,a.po)]) (os:=iS a) (A0:=A) (hs':=λ y=>[(b,dV y.2.2),(y.2.2.u,y.2.2.po)]) (os':=λ y=>iS y.2.2) (hc:=λ w1 hw=>lp h hns ok hm hA hB hw)) (λ x11 h11=>?_);refine P3 ?_;refine aM (cC λ _=>oF (off:=1) (vs:=x11.1.cells) (cs:=tkC b x11.1 0 false) rf bI rf (aY _) cY (Nat.le_of_ble_eq_true rfl) rf dM) (λ _=>?_);refine Kb5 ?_;refine J1 ?_;refine bJ results58 (λ w hw=>?_);exact⟨(x8,x11),rfl,qL.of hns h11,hw.ret (List.Sublist.refl _) (bM.dB λ f hf=>by simpa using hf) (List.Sublist.refl _)⟩
end
end
end Go.Proofs.YtdeecdfockjoiaaGreatDoor
