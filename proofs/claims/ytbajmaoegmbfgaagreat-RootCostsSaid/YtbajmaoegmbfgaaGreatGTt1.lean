/- Codes with a store: what they mean as trees. -/
import Derived.Test.YtbajmaoegmbfgaaGreatGArN
import Derived.Test.YtbajmaoegmbfgaaGreatGTr3
import Derived.Test.YtbajmaoegmbfgaaGreatGAr5
import Derived.Test.YtbajmaoegmbfgaaGreatGRn1

set_option linter.unusedSimpArgs false
set_option linter.unusedVariables false
namespace Go.Ct
section
open Go Go.RowKit
structure AS where
 L:List aP
 cs:List Int
 gen:Int
 acc:Int
 pn:Option Addr
 cn:Nat
 pc:Option Addr
 cc:Nat
def AS.mm(a:AS):Mm:=⟨(cN a.L).map aP.c,a.cs,a.gen⟩
structure Vj(s:Mm):Prop where
 nd:∀v∈s.nodes,mB s.nodes.length s.cs.length v
 cs:∀v∈s.cs,v<=s.nodes.length
 two:2<=s.nodes.length
structure AS.Ok(a:AS):Prop where
 fit:Fits a.L
 mo:Vj a.mm
structure Mm.Le(s s1:Mm):Prop where
 nodes:∃N,s1.nodes=s.nodes++N
 cl:s.cs.length<=s1.cs.length
def Mm.Small(s:Mm):Prop:=s.nodes.length<=137438953472/\s.cs.length<=137438953472
structure AS.iD(a a':AS)(F:Fr):Prop where
 le:a.mm.Le a'.mm
 fam:∀f∈aL a'.L,f.2=[]∨f∈aL a.L∨f∈F
theorem Mm.Le.refl(s:Mm):s.Le s:=⟨⟨[],by simp⟩,Nat.le_refl _⟩
theorem Mm.Le.trans{s t u:Mm}(h:s.Le t)(h2:t.Le u):s.Le u:=by
 obtain⟨⟨N,e⟩,c⟩:=h
 obtain⟨⟨M,e2⟩,c2⟩:=h2
 exact⟨⟨N++M,by rw[e2,e,List.append_assoc]⟩,Nat.le_trans c c2⟩
theorem Mm.Le.len{s t:Mm}(h:s.Le t):s.nodes.length<=t.nodes.length:=by obtain⟨N,e⟩:=h.nodes;rw[e,List.length_append];omega
theorem Mm.Le.nd{s t:Mm}(h:s.Le t){r:Int}(hr:r<=s.nodes.length):bQ t.nodes r=bQ s.nodes r:=by obtain⟨N,e⟩:=h.nodes;rw[e];exact sH hr
theorem AS.iD.refl(a:AS):a.iD a []:=⟨Mm.Le.refl _,λ f hf=>.inr (.inl hf)⟩
theorem AS.iD.more{a a':AS}{F F':Fr}(h:a.iD a' F)(hs:∀f∈F,f∈F'):a.iD a' F':=⟨h.le,λ f hf=>(h.fam f hf).imp_right λ h=>h.imp_right λ h=>hs f h⟩
theorem AS.iD.trans{a b c:AS}{F G:Fr}(h:a.iD b F)(h2:b.iD c G):a.iD c (G++F):=⟨h.le.trans h2.le,λ f hf=>by
 rcases h2.fam f hf with h1|h1|h1
 ·exact .inl h1
 ·rcases h.fam f h1 with h1|h1|h1
  ·exact .inl h1
  ·exact .inr (.inl h1)
  ·exact .inr (.inr (List.mem_append_right _ h1))
 ·exact .inr (.inr (List.mem_append_left _ h1))⟩
theorem Vj.at{s:Mm}(h:Vj s)(r:Int):mB s.nodes.length s.cs.length (bQ s.nodes r):=by
 unfold bQ
 split
 ·refine h.nd _ ?_
  rw[jN,List.getElem?_eq_getElem (by omega)]
  exact List.getElem_mem _
 ·exact Og _ _
theorem Vj.cell{s:Mm}(h:Vj s)(c:Int):bE s.cs c<=s.nodes.length:=by
 unfold bE
 split
 ·exact mN h.cs _
 ·exact bL _
theorem Vj.hY{s:Mm}(h:Vj s){c o n:Int}(hn:n<=s.nodes.length):Vj ⟨s.nodes,dL s.cs c o n,s.gen⟩:=by
 refine⟨λ v hv=>by simp only[gQ];exact h.nd v hv,λ v hv=>?_,h.two⟩
 simp only[dL] at hv
 split at hv
 ·rcases List.mem_or_eq_of_mem_set hv with hv|rfl
  ·exact h.cs v hv
  ·exact hn
 ·exact h.cs v hv
def eD:Tr->Mm->Tr×Mm
 | .alloc n i k,s=>eD (k ((s.nodes.length+1:Nat):Int)) (s.push n i)
 | .cell i k,s=>eD (k ((s.cs.length+1:Nat):Int)) ⟨s.nodes,s.cs++[i],s.gen⟩
 | .gen k,s=>eD (k (s.gen+1)) ⟨s.nodes,s.cs,s.gen+1⟩
 | .node r k,s=>eD (k (bQ s.nodes r)) s
 | t,s=>(t,s)
def nxT:Tr->Mm->Tr×Mm
 | .load c k,s=>(k (bE s.cs c),s)
 | .hY c o n k,s=>(k (B8 s.cs c o),⟨s.nodes,dL s.cs c o n,s.gen⟩)
 | t,s=>(t,s)
def vM(p:Tr×Mm):Tr×Mm:=eD (nxT p.1 p.2).1 (nxT p.1 p.2).2
def Tr.live:Tr->Bool
 | .done _=>false
 | _=>true
def kI(p:Tr×Mm):Nat->Tr×Mm
 | 0=>p
 | k+1=>vM (kI p k)
end
end Go.Ct
namespace Go.Proofs.YtbajmaoegmbfgaaGreat
section
open Go Go.RowKit Go.Ct
abbrev dV(a:AS):Obj:=aO a.L a.cs a.gen a.acc a.pn a.cn a.pc a.cc
abbrev eC(a:AS):List Ow:=mW a.L a.cs a.pn a.cn a.pc a.cc
def Av(b:Nat)(R:Cd->Mm->Fr->Prop)(a:AS)(B:Fr)(D:List Nat)(w:World):Ending->World->Prop:=λ e w'=>∃y:Cd×Fr×AS,e=.returned (.agg ⟨y.1.cells⟩)/\(R y.1 y.2.2.mm (y.2.1++B)/\y.2.2.Ok/\a.iD y.2.2 y.2.1)/\SF w D [(b,dV y.2.2)] [] y.2.1 (eC y.2.2) w'
def zQ(b:Nat)(f:FuncId)(cap:List Value)(arg:List Value)(B:Fr)(s:Mm)(R:Cd->Mm->Fr->Prop):Prop :=
 ∀(a:AS) (D:List Nat) (A:Fr) (w:World),a.mm=s->a.Ok->s.Small->(∀f∈aL a.L,f∈A)->(∀f∈B,f∈A)->SF w D [(b,dV a)] A [] (eC a) w->Calls Tryz.prog f ⟨arg++cap⟩ w (Av b R a B D w)
def lW(b:Nat):Tr->Mm->Cd->Mm->Fr->Prop
 | .done r,s,c,s2,_=>s2=s/\c=rO r
 | .load x k,s,c,s2,B=>s2=s/\x<=9223372036854775807/\∃f cap,c=nU x f cap/\plain Tryz.prog f=true/\∀(v:Int) (s1:Mm),s.Le s1->v<=s1.nodes.length->zQ b f cap [.int .i64 v] B s1 λ c' s' B'=>lW b (k v) s1 c' s' B'
 | .hY x o n k,s,c,s2,B=>s2=s/\x<=9223372036854775807/\n<=s.nodes.length/\∃f cap,c=uM x o n f cap/\plain Tryz.prog f=true/\∀(v:Bool) (s1:Mm),s.Le s1->zQ b f cap [.bool v] B s1 λ c' s' B'=>lW b (k v) s1 c' s' B'
 | .alloc n i k,s,c,s2,B=>lW b (k ((s.nodes.length+1:Nat):Int)) (s.push n i) c s2 B
 | .cell i k,s,c,s2,B=>lW b (k ((s.cs.length+1:Nat):Int)) ⟨s.nodes,s.cs++[i],s.gen⟩ c s2 B
 | .gen k,s,c,s2,B=>lW b (k (s.gen+1)) ⟨s.nodes,s.cs,s.gen+1⟩ c s2 B
 | .node r k,s,c,s2,B=>r<=s.nodes.length/\lW b (k (bQ s.nodes r)) s c s2 B
 | .stuck,_,_,_,_=>True
def Ah(b:Nat)(K:Int->Tr)(s:Mm)(f:FuncId)(cap:List Value)(B:Fr):Prop:=plain Tryz.prog f=true/\∀(v:Int) (s1:Mm),s.Le s1->v<=s1.nodes.length->zQ b f cap [.int .i64 v] B s1 λ c' s' B'=>lW b (K v) s1 c' s' B'
def S6(b:Nat)(K:Bool->Tr)(s:Mm)(f:FuncId)(cap:List Value)(B:Fr):Prop:=plain Tryz.prog f=true/\∀(v:Bool) (s1:Mm),s.Le s1->zQ b f cap [.bool v] B s1 λ c' s' B'=>lW b (K v) s1 c' s' B'
def Vi(b:Nat)(t:Tr)(s:Mm)(f:FuncId)(cap:List Value)(B:Fr):Prop:=plain Tryz.prog f=true/\∀s1:Mm,s.Le s1->zQ b f cap [] B s1 λ c' s' B'=>lW b t s1 c' s' B'
section
variable{b:Nat}{f:FuncId}{cap arg:List Value}{B B2:Fr}{s s1 s2:Mm}{t:Tr}{c:Cd}
theorem zQ.more{R R2:Cd->Mm->Fr->Prop}(h:zQ b f cap arg B s R)(hb:∀x∈B,x∈B2)(hR:∀c m C C2,(∀x∈C,x∈C2)->R c m C->R2 c m C2):zQ b f cap arg B2 s R2:=λ a D A w e1 ok hs h1 h2 hw =>
 (h a D A w e1 ok hs h1 (λ x hx=>h2 x (hb x hx)) hw).mono λ e w' ⟨y,he,⟨hr,h3⟩,hs⟩=>⟨y,he,⟨hR _ _ _ _ (λ x hx=>by
  rcases List.mem_append.1 hx with h1|h1
  ·exact List.mem_append_left _ h1
  ·exact List.mem_append_right _ (hb x h1)) hr,h3⟩,hs⟩
theorem lW.more:∀{t:Tr} {s s2:Mm} {c:Cd} {B B2:Fr},lW b t s c s2 B->(∀x∈B,x∈B2)->lW b t s c s2 B2
 | .done _,_,_,_,_,_,h,_=>h
 | .load _ k,_,_,_,_,_,⟨h0,h1,f,cap,h2,h3,h4⟩,hb=>⟨h0,h1,f,cap,h2,h3,λ v s1 l hv=>(h4 v s1 l hv).more hb λ _ _ _ _ hC h=>lW.more (t:=k v) h hC⟩
 | .hY _ _ _ k,_,_,_,_,_,⟨h0,h1,hn,f,cap,h2,h3,h4⟩,hb=>⟨h0,h1,hn,f,cap,h2,h3,λ v s1 l=>(h4 v s1 l).more hb λ _ _ _ _ hC h=>lW.more (t:=k v) h hC⟩
 | .alloc n i k,s,_,_,_,_,h,hb=>lW.more (t:=k ((s.nodes.length+1:Nat):Int)) h hb
 | .cell i k,s,_,_,_,_,h,hb=>lW.more (t:=k ((s.cs.length+1:Nat):Int)) h hb
 | .gen k,s,_,_,_,_,h,hb=>lW.more (t:=k (s.gen+1)) h hb
 | .node r k,s,_,_,_,_,h,hb=>⟨h.1,lW.more (t:=k (bQ s.nodes r)) h.2 hb⟩
 | .stuck,_,_,_,_,_,_,_=>trivial
theorem Ah.more{K:Int->Tr}(h:Ah b K s f cap B)(hb:∀x∈B,x∈B2):Ah b K s f cap B2:=⟨h.1,λ v s1 l hv=>(h.2 v s1 l hv).more hb λ _ _ _ _ hC h=>lW.more h hC⟩
theorem S6.more{K:Bool->Tr}(h:S6 b K s f cap B)(hb:∀x∈B,x∈B2):S6 b K s f cap B2:=⟨h.1,λ v s1 l=>(h.2 v s1 l).more hb λ _ _ _ _ hC h=>lW.more h hC⟩
theorem Vi.more(h:Vi b t s f cap B)(hb:∀x∈B,x∈B2):Vi b t s f cap B2:=⟨h.1,λ s1 l=>(h.2 s1 l).more hb λ _ _ _ _ hC h=>lW.more h hC⟩
theorem Ah.le{K:Int->Tr}(h:Ah b K s f cap B)(l:s.Le s1):Ah b K s1 f cap B:=⟨h.1,λ v s2 l2 hv=>h.2 v s2 (l.trans l2) hv⟩
theorem S6.le{K:Bool->Tr}(h:S6 b K s f cap B)(l:s.Le s1):S6 b K s1 f cap B:=⟨h.1,λ v s2 l2=>h.2 v s2 (l.trans l2)⟩
theorem Vi.le(h:Vi b t s f cap B)(l:s.Le s1):Vi b t s1 f cap B:=⟨h.1,λ s2 l2=>h.2 s2 (l.trans l2)⟩
theorem lW.kind(h:lW b t s c s2 B)(ha:eS t=true):(c.a.k=0↔t.live=false)/\(∀r,t=.done r->c.r=r)/\(∀x,t.acc=some x->c.a=x):=by
 cases t with
 | done r=>rw[h.2];exact⟨⟨λ _=>rfl,λ _=>rfl⟩,(λ r e=>by cases e;rfl),(λ x e=>nomatch e)⟩
 | load x k =>
  obtain⟨_,_,f,cap,e,_⟩:=h
  rw[e]
  exact⟨⟨λ h=>absurd h (show(1:Int)≠0 by decide),(λ h=>nomatch h)⟩,(λ r e=>nomatch e),λ x e=>by cases e;rfl⟩
 | hY x o n k =>
  obtain⟨_,_,_,f,cap,e,_⟩:=h
  rw[e]
  exact⟨⟨λ h=>absurd h (show(2:Int)≠0 by decide),(λ h=>nomatch h)⟩,(λ r e=>nomatch e),λ x e=>by cases e;rfl⟩
 | alloc n i k=>cases ha
 | cell i k=>cases ha
 | gen k=>cases ha
 | node r k=>cases ha
 | stuck=>cases ha
theorem lW.eD:∀{t:Tr} {s s2:Mm} {c:Cd} {n m:Nat},bS t n m->lW b t s c s2 B->(eD t s).2=s2/\eS (eD t s).1=true/\lW b (eD t s).1 s2 c s2 B
 | .done _,_,_,_,_,_,_,h=>by obtain⟨rfl,h2⟩:=h;exact⟨rfl,rfl,rfl,h2⟩
 | .load _ k,_,_,_,_,_,_,h=>by obtain⟨rfl,h2⟩:=h;exact⟨rfl,rfl,rfl,h2⟩
 | .hY _ _ _ k,_,_,_,_,_,_,h=>by obtain⟨rfl,h2⟩:=h;exact⟨rfl,rfl,rfl,h2⟩
 | .alloc n i k,s,_,_,_,0,ht,h=>ht.elim
 | .alloc n i k,s,_,_,_,_+1,ht,h=>lW.eD (t:=k ((s.nodes.length+1:Nat):Int)) (ht _) h
 | .cell i k,s,_,_,_,0,ht,h=>ht.elim
 | .cell i k,s,_,_,_,_+1,ht,h=>lW.eD (t:=k ((s.cs.length+1:Nat):Int)) (ht _) h
 | .gen k,s,_,_,_,0,ht,h=>ht.elim
 | .gen k,s,_,_,_,_+1,ht,h=>lW.eD (t:=k (s.gen+1)) (ht _) h
 | .node r k,s,_,_,_,_,ht,h=>lW.eD (t:=k (bQ s.nodes r)) (ht _) h.2
 | .stuck,_,_,_,_,_,ht,_=>ht.elim
end
section
variable{S:List (Nat×Value)}{w0 w:World}{M:List Nat}{H:List (Nat×Obj)}{A F:Fr}{O:List Ow}{ty:TypeId}{pos:String}{af:Array Edge}{gd:Option (Nat×Bool)}{X:Type}{V:X->Value}
theorem cMf{φ:X->Prop}{hs H':List (Nat×Obj)}{os O':List Ow}{hs' H1:X->List (Nat×Obj)}{os' O1:X->List Ow}{Fc F1:X->Fr}{A0:Fr}{is js:List Nat}{f:FuncId}{cap:List Value}{xs:List Operand}{at_:Array TypeId}{vs:List Value}{dst:Option Nat}{x:Operand}
  (hx:ev S x=.func (.func f) #[] ⟨cap⟩:=by exact rfl) (ha:qZ S xs=vs:=by(repeat (first|exact cH _|(apply bV;focus ((conv=>{lhs;whnf});try exact rfl))));first|done|fail) (hp:plain Tryz.prog f=true)
  (hc:∀w,SF w (Ks hs os) hs A0 [] os w->Calls Tryz.prog f ⟨vs++cap⟩ w λ e w'=>∃x,e=.returned (V x)/\φ x/\SF w (Ks hs os) (hs' x) [] (Fc x) (os' x) w')
  (hH:mC H is hs H':=by(repeat (first|exact mC.nil|(apply mC.cons;(focus ((repeat (first|exact zK.head|apply zK.tail));done));simp only[qW])));first|done|fail)
  (hO:mC O js os O':=by(repeat (first|exact mC.nil|(apply mC.cons;(focus ((repeat (first|exact zK.head|apply zK.tail));done));simp only[qW])));first|done|fail)
  (hA:bB A F O' A0:=by exact bB.of (λ _ h=>Or.inr (Or.inl h)))
  (hl1:∀x,is.length=(hs' x).length:=by intro x;exact rfl) (hl2:∀x,js.length=(os' x).length:=by intro x;exact rfl)
  (hH1:∀x,iX is (hs' x) H'=H1 x:=by intro x;first|(simp only[iX,rD];exact rfl)|exact rfl) (hF1:∀x,Fc x++F=F1 x:=by intro x;first|(simp only[List.nil_append,List.cons_append];exact rfl)|exact rfl) (hO1:∀x,iX js (os' x) O'=O1 x:=by intro x;simp only[iX,rD,mW];exact rfl) :
  bG Tryz.prog S (SF w0 M H A F O) ⟨dst,.call {callee:=.value x,args:=⟨xs⟩,argTypes:=at_},ty,pos,af,gd⟩ X V (λ x w=>φ x/\SF w0 M (H1 x) A (F1 x) (O1 x) w) :=
 iH (r6 hx hp ha) λ w hw=>(hc w (hw.qA hH hO hA)).mono λ _ _ ⟨x,he,hx,hs⟩=>⟨x,he,hx,by
  have:=hw.xK (hs':=hs' x) (Hc:=[]) (os':=os' x) (Oc:=[]) hH hO (by simpa using hs) (hl1 x) (hl2 x)
  rw[<- hH1 x,<- hF1 x,<- hO1 x]
  simpa using this⟩
end
end

/- Tasks: Done, Next, Result, Steps. -/
end Go.Proofs.YtbajmaoegmbfgaaGreat
namespace Go.Ct
section
open Go Go.RowKit
theorem SF.same{w w':World}{b:Nat}{o:Obj}(h:SF w [b] [(b,o)] [] [] [] w')(hb:w.heap[b]?=some o):St w [] [] w' :=
 ⟨h.st.os,h.st.tape,h.st.output,h.st.size,λ k hk _=>by
  by_cases e:k=b
  ·subst e;rw[h.st.has (k,o) (List.mem_singleton.2 rfl),hb]
  ·exact h.st.kL k hk (by simpa using e),λ _ h=>(List.not_mem_nil h).elim,λ _ h=>(List.not_mem_nil h).elim,List.nodup_nil⟩
theorem SF.vr{w:World}{b:Nat}{o:Obj}(hb:w.heap[b]?=some o):SF w [b] [(b,o)] [] [] [] w :=
 ⟨⟨rfl,rfl,rfl,Nat.le_refl _,λ _ _ _=>rfl,λ p hp=>by rw[List.mem_singleton.1 hp];exact hb,λ p hp=>by rw[List.mem_singleton.1 hp];exact .inl (List.mem_singleton.2 rfl),by simp⟩,λ _ h=>(List.not_mem_nil h).elim,λ _ h=>(List.not_mem_nil h).elim,λ _ h=>(List.not_mem_nil h).elim,by simp[Ks]⟩
end
end Go.Ct
namespace Go.Proofs.YtbajmaoegmbfgaaGreat
section
open Go Go.RowKit Go.Ct
abbrev tkC(b:Nat)(c:Cd)(n:Nat)(z:Bool):List Value:=[.iface 42 (.pointer (some ⟨b,0,none⟩)),.int .i64 c.a.k,.int .i64 c.a.c,.int .i64 c.a.o,.int .i64 c.a.n,fnV c.f,fnV c.g,.int .i64 c.r.err,.bool c.r.found,.int .u64 c.r.val,.string c.r.key,.int .i64 c.r.gU,.int .i64 c.r.ref,.int .i64 c.r.root,.bool c.r.ro,.int .i64 ((n:Nat):Int),.bool z]
abbrev tO(b:Nat)(c:Cd)(n:Nat):Obj:=.cells ⟨tkC b c n false⟩ 141 (0,0)
section
variable{D:List Nat}{A B:Fr}{L:List aP}{cs:List Int}{gen acc:Int}{pn pc:Option Addr}{cn cc b bt n:Nat}{w:World}{c:Cd}
theorem Ap(h:w.heap[bt]?=some (tO b c n)):Calls Tryz.prog 33 #[.pointer (some ⟨bt,0,none⟩)] w λ e w'=>e=.returned (.bool (c.a.k==0))/\St w [] [] w':=by
 refine enter Tryz.func33 Tryz.ntmps33 rfl rfl (SF.vr h) ?_
 simp only[cA]
 refine cS ?_;refine I1 ?_;refine aF ?_;refine J3 ?_;refine Rq ?_
 refine aQ Tryz.results33 (λ w hw=>?_)
 exact⟨rfl,hw.aX.same h⟩
theorem T5(h:w.heap[bt]?=some (tO b c n)):Calls Tryz.prog 34 #[.pointer (some ⟨bt,0,none⟩)] w λ e w'=>e=.returned (.agg ⟨(if c.a.k=0 then c.r else Rs.zero).cells⟩)/\St w [] [] w':=by
 refine enter Tryz.func34 Tryz.ntmps34 rfl rfl (SF.vr h) ?_
 simp only[cA]
 refine J0 ?_;refine aJ (λ x2=>?_);refine aG ?_;refine kR ?_;refine aN (cV (hc:=λ w1 hw=>Ap (hw.st.at cY))) (λ x4=>?_);refine pE ?_
 refine bD (λ c5=>?_) (λ c5=>?_)
 ·refine Kc0 ?_
  refine aY Tryz.results34 (λ w hw=>?_)
  refine⟨?_,hw.aX.same h⟩
  rw[if_neg (by simpa using c5)]
  rfl
 ·refine aW ?_;refine I1 ?_;refine aF ?_;refine aC (aR (k:=8) (vs:=c.r.cells) rf cY eF rfl rfl) rfl ?_;refine J5 ?_
  refine aY Tryz.results34 (λ w hw=>?_)
  refine⟨?_,hw.aX.same h⟩
  rw[if_pos (by simpa using c5)]
  rfl
end
end

/- Tasks on an arena: how they begin, how they go on. -/
end Go.Proofs.YtbajmaoegmbfgaaGreat
namespace Go.Ct
section
open Go Go.RowKit
abbrev AS.Xi(a:AS)(cs:List Int):AS:={a with cs:=cs,acc:=up a.acc}
theorem AS.Ok.Xi{a:AS}(ok:a.Ok){x o n:Int}(hn:n<=a.mm.nodes.length):(a.Xi (dL a.cs x o n)).Ok:=⟨ok.fit,ok.mo.hY hn⟩
end
end Go.Ct
namespace Go.Proofs.YtbajmaoegmbfgaaGreat
section
open Go Go.RowKit Go.Ct
section
variable{D:List Nat}{A B:Fr}{a:AS}{b bt n:Nat}{w:World}{c:Cd}{t:Tr}{f:FuncId}{cap:List Value}
theorem nh(h:Vi b t a.mm f cap B)(ok:a.Ok)(hm:a.mm.Small)(hA:∀f∈aL a.L,f∈A)(hB:∀x∈B,x∈A)(hs:SF w D [(b,dV a)] A [] (eC a) w) :
  Calls Tryz.prog 118 #[.func (.func f) #[] ⟨cap⟩] w (Av b (λ c' s' B'=>lW b t a.mm c' s' B') a B D w):=by
 obtain⟨hp,h⟩:=h
 refine Sx Tryz.func118 Tryz.ntmps118 rfl rfl hs ?_
 simp only[cA]
 refine gB ?_;refine dR ?_;refine vU (λ x2=>?_);refine iT ?_;refine gB ?_;refine dR ?_;(refine gY bZ rfl ?_);refine Fm rfl ?_;refine iT ?_;refine gB ?_;refine gB ?_;refine dR ?_;refine pI ?_;refine gY (L8 rf rf (aBR _ _ _)) rfl ?_;refine iT ?_
 refine Kn (λ c5=>?_) (λ c5=>?_)
 ·exact nv c5
 ·revert c5;(skip);intro c5
  refine E5 ?_;refine gB ?_;refine dR ?_;refine pI ?_;refine Bk (cMf (V:=λ y:Cd×Fr×AS=>.agg ⟨y.1.cells⟩) (hs:=[(b,dV a)]) (os:=eC a) (hs':=λ y=>[(b,dV y.2.2)]) (os':=λ y=>eC y.2.2) (Fc:=λ y=>y.2.1) (A0:=A) (f:=f) (cap:=cap) (vs:=[]) (hp:=hp) (hc:=λ w1 hw=>h a.mm (Mm.Le.refl _) a _ A w1 rfl ok hm hA hB hw)) (λ x8 h8=>?_);refine Mj (gV λ _=>aZ rf cY rf (cK _) eF rf jI) (λ _=>?_);refine iT ?_
  refine Iu (R5 _) (by kernel_rfl) Tryz.results118 (.cell rf cY eF .nil) (λ w hw=>?_)
  exact⟨x8,rfl,h8,hw.ret (by repeat (first|exact List.Sublist.refl _|apply List.Sublist.cons)) (aV.iM λ f hf=>by simpa using hf) (List.Sublist.refl _)⟩
theorem H9{x:Int}{k:Int->Tr}(hr:lW b (.load x k) a.mm c a.mm B)(ok:a.Ok)(hm:a.mm.Small)(hA:∀f∈aL a.L,f∈A)(hB:∀x∈B,x∈A)(hs:SF w D [(b,dV a)] A [] (eC a) w) :
  Calls Tryz.prog 86 #[.iface 42 (.pointer (some ⟨b,0,none⟩)),.agg ⟨c.cells⟩] w (Av b (λ c' s' B'=>lW b (k (bE a.cs x)) a.mm c' s' B') a B D w):=by
 obtain⟨_,hx,f,cap,rfl,hp,hk⟩:=hr
 have hl:a.cs.length<=274877906944:=by have:=hm.2;show a.mm.cs.length<=_;omega
 have hv:bE a.cs x<=a.mm.nodes.length:=ok.mo.cell x
 refine Sx Tryz.func86 Tryz.ntmps86 rfl rfl hs ?_
 simp only[cA]
 refine gB ?_;refine dR ?_;refine ln (λ x3=>?_);refine vU (λ x4=>?_);refine iT ?_;refine gB ?_;refine dR ?_;(refine gY bZ rfl ?_);refine Fm rfl ?_;refine iT ?_;refine gB ?_;refine dR ?_;refine eP ?_;refine gY (aR (k:=4) (vs:=(nU x f cap).a.cells) rf cY eF rfl rfl) rfl ?_;refine vU (λ x5=>?_);refine N3 (λ _=>?_);refine iT ?_;refine gB ?_;refine gB ?_;refine dR ?_;refine eP ?_;refine oB ?_;refine ee ?_;refine iT ?_
 refine Kn (λ c13=>?_) (λ c13=>?_)
 ·revert c13;(refine cv1 ?_);intro c13
  refine gB ?_;refine dR ?_;refine zV (λ _=>?_);refine iT ?_;refine gB ?_;refine gB ?_;refine dR ?_;refine pI ?_;refine gY (U4 rf rf (D1 _)) rfl ?_;refine iT ?_
  refine Kn (λ c15=>?_) (λ c15=>?_)
  ·revert c15;(skip);intro c15
   refine dR ?_;refine pI ?_;refine eP ?_;refine oB ?_;refine Bk (cMI (V:=λ _:Unit=>.int .i64 (bE a.cs x)) (os':=λ _=>eC (a.Xi a.cs)) (hs':=λ _=>[(b,dV (a.Xi a.cs))]) (Fc:=λ _=>[]) (A0:=A) (hm:=λ w=>dj _ _ w) (hc:=λ w hw=>Nj hw x hx hl)) (λ x19 h19=>?_);refine zV (λ _=>?_);refine iT ?_;refine gB ?_;refine gB ?_;refine dR ?_;refine eP ?_;refine oB ?_;refine gY (L8 rf rf (aAI _ _ _)) rfl ?_;refine iT ?_
   refine Kn (λ c22=>?_) (λ c22=>?_)
   ·exact nv c22
   ·revert c22;(skip);intro c22
    refine E5 ?_;refine gB ?_;refine dR ?_;refine eP ?_;refine oB ?_;refine pI ?_;refine Bk (cMf (V:=λ y:Cd×Fr×AS=>.agg ⟨y.1.cells⟩) (hs:=[(b,dV (a.Xi a.cs))]) (os:=eC (a.Xi a.cs)) (hs':=λ y=>[(b,dV y.2.2)]) (os':=λ y=>eC y.2.2) (Fc:=λ y=>y.2.1) (A0:=A) (f:=f) (cap:=cap) (vs:=[.int .i64 (bE a.cs x)]) (hp:=hp) (hc:=λ w1 hw=>hk (bE a.cs x) a.mm (Mm.Le.refl _) hv (a.Xi a.cs) _ A w1 rfl ⟨ok.fit,ok.mo⟩ hm hA hB hw)) (λ x27 h27=>?_);refine Mj (gV λ _=>aZ rf cY rf (cK _) eF rf jI) (λ _=>?_);refine iT ?_
    refine Iu (zI _) (by kernel_rfl) Tryz.results86 (.cell rf cY eF .nil) (λ w hw=>?_)
    exact⟨x27,rfl,⟨h27.1,h27.2.1,⟨h27.2.2.le,h27.2.2.fam⟩⟩,hw.ret (by repeat (first|exact List.Sublist.refl _|apply List.Sublist.cons)) (aV.iM λ f hf=>by simpa using hf) (List.Sublist.refl _)⟩
  ·exact nv c15
 ·revert c13;(refine cv2 ?_);intro c13
  exact(c13 rfl).elim
theorem Ja{x o n:Int}{k:Bool->Tr}(hr:lW b (.hY x o n k) a.mm c a.mm B)(ok:a.Ok)(hm:a.mm.Small)(hA:∀f∈aL a.L,f∈A)(hB:∀x∈B,x∈A)(hs:SF w D [(b,dV a)] A [] (eC a) w) :
  Calls Tryz.prog 86 #[.iface 42 (.pointer (some ⟨b,0,none⟩)),.agg ⟨c.cells⟩] w (Av b (λ c' s' B'=>lW b (k (B8 a.cs x o)) ⟨a.mm.nodes,dL a.cs x o n,a.gen⟩ c' s' B') a B D w):=by
 obtain⟨_,hx,hn,f,cap,rfl,hp,hk⟩:=hr
 have hl:a.cs.length<=274877906944:=by have:=hm.2;show a.mm.cs.length<=_;omega
 have hle:a.mm.Le ⟨a.mm.nodes,dL a.cs x o n,a.gen⟩:=⟨⟨[],by simp⟩,by show a.cs.length<=(dL a.cs x o n).length;rw[gQ];exact Nat.le_refl _⟩
 have hm2:Mm.Small ⟨a.mm.nodes,dL a.cs x o n,a.gen⟩:=⟨hm.1,by show(dL a.cs x o n).length<=_;rw[gQ];exact hm.2⟩
 refine Sx Tryz.func86 Tryz.ntmps86 rfl rfl hs ?_
 simp only[cA]
 refine gB ?_;refine dR ?_;refine ln (λ x3=>?_);refine vU (λ x4=>?_);refine iT ?_;refine gB ?_;refine dR ?_;(refine gY bZ rfl ?_);refine Fm rfl ?_;refine iT ?_;refine gB ?_;refine dR ?_;refine eP ?_;refine gY (aR (k:=4) (vs:=(uM x o n f cap).a.cells) rf cY eF rfl rfl) rfl ?_;refine vU (λ x5=>?_);refine N3 (λ _=>?_);refine iT ?_;refine gB ?_;refine gB ?_;refine dR ?_;refine eP ?_;refine oB ?_;refine ee ?_;refine iT ?_
 refine Kn (λ c13=>?_) (λ c13=>?_)
 ·revert c13;(refine cv1 ?_);intro c13
  exact absurd (show(2:Int)=1 from c13) (by decide)
 ·revert c13;(refine cv2 ?_);intro c13
  refine E5 ?_;refine gB ?_;refine dR ?_;refine pI ?_;refine gY (U4 rf rf (D1 _)) rfl ?_;refine pI ?_
  (refine wU ?_;refine pI ?_)
  ((refine wU ?_;refine eP ?_));((refine wU ?_;refine oB ?_));((refine wU ?_;refine eP ?_));((refine wU ?_;refine oB ?_));((refine wU ?_;refine eP ?_));((refine wU ?_;refine oB ?_));((refine wU ?_;refine Bk (cMI (V:=Value.bool) (os':=λ _=>eC (a.Xi (dL a.cs x o n))) (hs':=λ _=>[(b,dV (a.Xi (dL a.cs x o n)))]) (Fc:=λ _=>[]) (A0:=A) (hm:=λ w=>rk _ _ _ _ w) (hc:=λ w hw=>aAx hw x o n hx hl)) (λ x38 h38=>?_)));refine od ?_;refine zV (λ _=>?_);refine iT ?_;refine gB ?_;refine gB ?_;refine dR ?_;refine eP ?_;refine oB ?_;refine gY (L8 rf rf (aAN _ _ _)) rfl ?_;refine iT ?_
  refine Kn (λ c42=>?_) (λ c42=>?_)
  ·exact nv c42
  ·revert c42;(skip);intro c42
   refine E5 ?_;refine gB ?_;refine dR ?_;refine eP ?_;refine oB ?_;refine pI ?_;refine Bk (cMf (V:=λ y:Cd×Fr×AS=>.agg ⟨y.1.cells⟩) (hs:=[(b,dV (a.Xi (dL a.cs x o n)))]) (os:=eC (a.Xi (dL a.cs x o n))) (hs':=λ y=>[(b,dV y.2.2)]) (os':=λ y=>eC y.2.2) (Fc:=λ y=>y.2.1) (A0:=A) (f:=f) (cap:=cap) (vs:=[.bool x38]) (hp:=hp) (hc:=λ w1 hw=>hk x38 _ hle (a.Xi (dL a.cs x o n)) _ A w1 rfl (ok.Xi hn) hm2 hA hB hw)) (λ x47 h47=>?_);refine Mj (gV λ _=>aZ rf cY rf (cK _) eF rf jI) (λ _=>?_);refine iT ?_
   refine Iu (zI _) (by kernel_rfl) Tryz.results86 (.cell rf cY eF .nil) (λ w hw=>?_)
   exact⟨x47,rfl,⟨Ex h38▸h47.1,h47.2.1,⟨hle.trans h47.2.2.le,h47.2.2.fam⟩⟩,hw.ret (by repeat (first|exact List.Sublist.refl _|apply List.Sublist.cons)) (aV.iM λ f hf=>by simpa using hf) (List.Sublist.refl _)⟩
def pX(b:Nat)(p:Tr×Mm)(a:AS)(B:Fr)(y:Cd×Fr×AS):Prop:=(lW b p.1 p.2 y.1 p.2 (y.2.1++B)/\y.2.2.mm=p.2)/\y.2.2.Ok/\a.iD y.2.2 y.2.1
theorem pX.of{t0:Tr}{s0:Mm}{y:Cd×Fr×AS}{i m:Nat}(ht:bS t0 i m)(h:lW b t0 s0 y.1 y.2.2.mm (y.2.1++B)/\y.2.2.Ok/\a.iD y.2.2 y.2.1):pX b (Ct.eD t0 s0) a B y/\eS (Ct.eD t0 s0).1=true:=by
 obtain⟨h1,h2,h3⟩:=lW.eD ht h.1
 exact⟨⟨⟨by rw[h1];exact h3,h1.symm⟩,h.2⟩,h2⟩
theorem Qr{i m:Nat}(ht:bS t (i+1) m)(ha:eS t=true)(hlv:t.live=true)(hr:lW b t a.mm c a.mm B)(ok:a.Ok)(hm:a.mm.Small)(hA:∀f∈aL a.L,f∈A)(hB:∀x∈B,x∈A)(hs:SF w D [(b,dV a)] A [] (eC a) w) :
  Calls Tryz.prog 86 #[.iface 42 (.pointer (some ⟨b,0,none⟩)),.agg ⟨c.cells⟩] w λ e w'=>∃y:Cd×Fr×AS,e=.returned (.agg ⟨y.1.cells⟩)/\(pX b (vM (t,a.mm)) a B y/\eS (vM (t,a.mm)).1=true)/\SF w D [(b,dV y.2.2)] [] y.2.1 (eC y.2.2) w':=by
 cases t with
 | done r=>cases hlv
 | load x k=>exact(H9 hr ok hm hA hB hs).mono λ e w' ⟨y,he,h,hw⟩=>⟨y,he,pX.of (ht _) h,hw⟩
 | hY x o n k=>exact(Ja hr ok hm hA hB hs).mono λ e w' ⟨y,he,h,hw⟩=>⟨y,he,pX.of (ht _) h,hw⟩
 | alloc n i k=>cases ha
 | cell i k=>cases ha
 | gen k=>cases ha
 | node r k=>cases ha
 | stuck=>cases ha
theorem X6{i m:Nat}(ht:bS t (i+1) m)(ha:eS t=true)(hlv:t.live=true)(hr:lW b t a.mm c a.mm B)(ok:a.Ok)(hm:a.mm.Small)(hn:n<1000000000)(hA:∀f∈aL a.L,f∈A)(hB:∀x∈B,x∈A)(hs:SF w D [(bt,tO b c n),(b,dV a)] A [] (eC a) w) :
  Calls Tryz.prog 37 #[.pointer (some ⟨bt,0,none⟩)] w λ e w'=>∃y:Cd×Fr×AS,e=.returned (.tuple #[])/\(pX b (vM (t,a.mm)) a B y/\eS (vM (t,a.mm)).1=true)/\SF w D [(bt,tO b y.1 (n+1)),(b,dV y.2.2)] [] y.2.1 (eC y.2.2) w':=by
 have hk:c.a.k≠0:=λ e=>by have:=(hr.kind ha).1.1 e;rw[hlv] at this;cases this
 refine enter Tryz.func37 Tryz.ntmps37 rfl rfl hs ?_
 simp only[cA]
 refine kR ?_;refine aN (cV (hc:=λ w1 hw=>Ap (hw.st.at cY))) (λ x3=>?_);refine aA ?_
 (refine dZ 4 (λ g4=>?_) (λ g4=>?_)<;>(try (exfalso;omega))<;>((refine Ka3 ?_)))
 ((refine aE ?_;refine dF ?_));refine J6 ?_;refine bX ?_;refine aG ?_
 refine bD (λ c9=>?_) (λ c9=>?_)
 ·exact nv c9
 ·try (exfalso;omega)
  refine aW ?_;refine J13 ?_;refine vF ?_;refine mA ?_;refine H7 ?_;refine Np ?_;refine aS ?_;refine gS [0,1,2,3,4,5,6,7,8,9,10,11,12] ?_;refine Xf ?_;refine J9 ?_;refine bT (i:=8) (hq:=(aR (k:=14) (vs:=c.cells) rf cY eF rfl rfl)) (h:=?_);refine bC (i:=9) (hq:=(cM (V:=λ y:Cd×Fr×AS=>.agg ⟨y.1.cells⟩) (Fc:=λ y=>y.2.1) (hs:=[(b,dV a)]) (os:=eC a) (A0:=A) (hs':=λ y=>[(b,dV y.2.2)]) (os':=λ y=>eC y.2.2) (hc:=λ w hw=>Qr ht ha hlv hr ok hm hA hB hw))) (h:=λ x29 h29=>?_);refine J4 ?_;refine lI (i:=12) (hq:=(gV λ _=>lY (off:=1) (vs:=x29.1.cells) (cs:=tkC b x29.1 (n+1) true) rf cY rf (cK _) eF (Nat.le_of_ble_eq_true rfl) rf jI)) (h:=λ _=>?_);refine eU ?_;refine Aa ?_;refine Np ?_
  refine Eg Tryz.results37 (λ w hw=>?_)
  exact⟨x29,rfl,h29,hw.ret (List.Sublist.refl _) (aV.iM λ f hf=>by simpa using hf) (List.Sublist.refl _)⟩
theorem db{i m:Nat}(ht:bS t i m)(h:Vi b t a.mm f cap B)(ok:a.Ok)(hm:a.mm.Small)(hA:∀f∈aL a.L,f∈A)(hB:∀x∈B,x∈A)(hs:SF w D [(b,dV a)] A [] (eC a) w) :
  Calls Tryz.prog 73 #[.iface 42 (.pointer (some ⟨b,0,none⟩)),.func (.func f) #[] ⟨cap⟩] w λ e w'=>∃x:Nat×Cd×Fr×AS,e=.returned (.pointer (some ⟨x.1,0,none⟩))/\(pX b (Ct.eD t a.mm) a B x.2/\eS (Ct.eD t a.mm).1=true)/\SF w D [(x.1,tO b x.2.1 0),(b,dV x.2.2.2)] [] x.2.2.1 (eC x.2.2.2) w':=by
 refine enter Tryz.func73 Tryz.ntmps73 rfl rfl hs ?_
 simp only[cA]
 refine cS ?_;refine J2 ?_;refine bI ?_;refine bK (λ x8=>?_);refine Ai ?_;refine aD (cM (V:=λ y:Cd×Fr×AS=>.agg ⟨y.1.cells⟩) (Fc:=λ y=>y.2.1) (hs:=[(b,dV a)]) (os:=eC a) (A0:=A) (hs':=λ y=>[(b,dV y.2.2)]) (os':=λ y=>eC y.2.2) (hc:=λ w1 hw=>nh h ok hm hA hB hw)) (λ x11 h11=>?_);refine Lg ?_;refine bY (gV λ _=>lY (off:=1) (vs:=x11.1.cells) (cs:=tkC b x11.1 0 false) rf cY rf (cK _) eF (Nat.le_of_ble_eq_true rfl) rf jI) (λ _=>?_);refine aG ?_;refine Ka5 ?_
 refine aQ Tryz.results73 (λ w hw=>?_)
 exact⟨(x8,x11),rfl,pX.of ht h11,hw.ret (List.Sublist.refl _) (aV.iM λ f hf=>by simpa using hf) (List.Sublist.refl _)⟩
end
end

end Go.Proofs.YtbajmaoegmbfgaaGreat
