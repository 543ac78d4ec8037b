/- Merged. -/
import Derived.Test.YtbajmaoegmbfgaaGreatGIxg
import Derived.Test.YtbajmaoegmbfgaaGreatGWo4
import Derived.Test.YtbajmaoegmbfgaaGreatGAr4
import Derived.Test.YtbajmaoegmbfgaaGreatGRn1
import Derived.Test.YtbajmaoegmbfgaaGreatGWo6
import Derived.Test.YtbajmaoegmbfgaaGreatGBr2
set_option linter.unusedSimpArgs false
set_option linter.unusedVariables false
namespace Go.Ct
open Go Go.RowKit
section
structure AS where
 L:List aQ
 cs:List Int
 gen:Int
 acc:Int
 pn:Option Addr
 cn:Nat
 pc:Option Addr
 cc:Nat
def AS.mm(a:AS):Mm:=⟨(dL a.L).map aQ.c,a.cs,a.gen⟩
structure Zv(s:Mm):Prop where
 nd:∀v∈s.nodes,mC s.nodes.length s.cs.length v
 cs:∀v∈s.cs,v<=s.nodes.length
 two:2<=s.nodes.length
structure AS.Ok(a:AS):Prop where
 fit:Fits a.L
 mo:Zv a.mm
structure Mm.Le(s s1:Mm):Prop where
 nodes:∃N,s1.nodes=s.nodes++N
 cl:s.cs.length<=s1.cs.length
def Mm.Small(s:Mm):Prop:=s.nodes.length<=137438953472/\s.cs.length<=137438953472
structure AS.jM(a a':AS)(F:Fr):Prop where
 le:a.mm.Le a'.mm
 fam:∀f∈aN a'.L,f.2=[]∨f∈aN a.L∨f∈F
theorem Mm.Le.refl(s:Mm):s.Le s:=⟨⟨[],by simp⟩,Nat.le_refl _⟩
theorem Mm.Le.trans{s t u:Mm}(h:s.Le t)(h2:t.Le u):s.Le u:=by
 obtain⟨⟨N,e⟩,c⟩:=h
 obtain⟨⟨M,e2⟩,c2⟩:=h2
 exact⟨⟨N++M,by rw[e2,e,List.append_assoc]⟩,Nat.le_trans c c2⟩
theorem Mm.Le.len{s t:Mm}(h:s.Le t):s.nodes.length<=t.nodes.length:=by obtain⟨N,e⟩:=h.nodes;rw[e,List.length_append];omega
theorem Mm.Le.nd{s t:Mm}(h:s.Le t){r:Int}(hr:r<=s.nodes.length):bA t.nodes r=bA s.nodes r:=by obtain⟨N,e⟩:=h.nodes;rw[e];exact mN hr
theorem AS.jM.refl(a:AS):a.jM a []:=⟨Mm.Le.refl _,λ f hf=>.inr (.inl hf)⟩
theorem AS.jM.more{a a':AS}{F F':Fr}(h:a.jM a' F)(hs:∀f∈F,f∈F'):a.jM a' F':=⟨h.le,λ f hf=>(h.fam f hf).imp_right λ h=>h.imp_right λ h=>hs f h⟩
theorem AS.jM.trans{a b c:AS}{F G:Fr}(h:a.jM b F)(h2:b.jM c G):a.jM c (G++F):=⟨h.le.trans h2.le,λ f hf=>by
 rcases h2.fam f hf with h1|h1|h1
 ·exact .inl h1
 ·rcases h.fam f h1 with h1|h1|h1
  ·exact .inl h1
  ·exact .inr (.inl h1)
  ·exact .inr (.inr (List.mem_append_right _ h1))
 ·exact .inr (.inr (List.mem_append_left _ h1))⟩
theorem Zv.at{s:Mm}(h:Zv s)(r:Int):mC s.nodes.length s.cs.length (bA s.nodes r):=by
 unfold bA
 split
 ·refine h.nd _ ?_
  rw[iU,List.getElem?_eq_getElem (by omega)]
  exact List.getElem_mem _
 ·exact Oz _ _
theorem Zv.cell{s:Mm}(h:Zv s)(c:Int):aS s.cs c<=s.nodes.length:=by
 unfold aS
 split
 ·exact mQ h.cs _
 ·exact bL _
theorem Zv.jW{s:Mm}(h:Zv s){c o n:Int}(hn:n<=s.nodes.length):Zv ⟨s.nodes,eG s.cs c o n,s.gen⟩:=by
 refine⟨λ v hv=>by simp only[fN];exact h.nd v hv,λ v hv=>?_,h.two⟩
 simp only[eG] at hv
 split at hv
 ·rcases List.mem_or_eq_of_mem_set hv with hv|rfl
  ·exact h.cs v hv
  ·exact hn
 ·exact h.cs v hv
def gF:Tr->Mm->Tr×Mm
 | .alloc n i k,s=>gF (k ((s.nodes.length+1:Nat):Int)) (s.push n i)
 | .cell i k,s=>gF (k ((s.cs.length+1:Nat):Int)) ⟨s.nodes,s.cs++[i],s.gen⟩
 | .gen k,s=>gF (k (s.gen+1)) ⟨s.nodes,s.cs,s.gen+1⟩
 | .node r k,s=>gF (k (bA s.nodes r)) s
 | t,s=>(t,s)
def nxT:Tr->Mm->Tr×Mm
 | .load c k,s=>(k (aS s.cs c),s)
 | .jW c o n k,s=>(k (Ix s.cs c o),⟨s.nodes,eG s.cs c o n,s.gen⟩)
 | t,s=>(t,s)
def rB(p:Tr×Mm):Tr×Mm:=gF (nxT p.1 p.2).1 (nxT p.1 p.2).2
def Tr.live:Tr->Bool
 | .done _=>false
 | _=>true
def gI(p:Tr×Mm):Nat->Tr×Mm
 | 0=>p
 | k+1=>rB (gI p k)
theorem Ep(p:Tr×Mm)(j:Nat):∀k,gI p (j+k)=gI (gI p j) k
 | 0=>rfl
 | k+1=>by show rB (gI p (j+k))=_;rw[Ep p j k];rfl
theorem vO{r:Rs}{s:Mm}:∀k,gI (.done r,s) k=(.done r,s)
 | 0=>rfl
 | k+1=>by show rB (gI _ k)=_;rw[vO k];rfl
end
end Go.Ct
namespace Go.Proofs.YtbajmaoegmbfgaaGreat
open Go.Proofs.Tryz (prog)
open Go Go.RowKit Go.Ct
section
abbrev eV(a:AS):Obj:=aO a.L a.cs a.gen a.acc a.pn a.cn a.pc a.cc
abbrev fJ(a:AS):List Ow:=mW a.L a.cs a.pn a.cn a.pc a.cc
def Ei(b:Nat)(R:Cd->Mm->Fr->Prop)(a:AS)(B:Fr)(D:List Nat)(w:World):Ending->World->Prop:=λ e w'=>∃y:Cd×Fr×AS,e=.returned (.agg ⟨y.1.cells⟩)/\(R y.1 y.2.2.mm (y.2.1++B)/\y.2.2.Ok/\a.jM y.2.2 y.2.1)/\SF w D [(b,eV y.2.2)] [] y.2.1 (fJ y.2.2) w'
def zT(b:Nat)(f:FuncId)(cap:List Value)(arg:List Value)(B:Fr)(s:Mm)(R:Cd->Mm->Fr->Prop):Prop :=
 ∀(a:AS) (D:List Nat) (A:Fr) (w:World),a.mm=s->a.Ok->s.Small->(∀f∈aN a.L,f∈A)->(∀f∈B,f∈A)->SF w D [(b,eV a)] A [] (fJ a) w->Calls prog f ⟨arg++cap⟩ w (Ei b R a B D w)
def kU(b:Nat):Tr->Mm->Cd->Mm->Fr->Prop
 | .done r,s,c,s2,_=>s2=s/\c=Bm r
 | .load x k,s,c,s2,B=>s2=s/\x<=9223372036854775807/\∃f cap,c=uI x f cap/\plain prog f=true/\∀(v:Int) (s1:Mm),s.Le s1->v<=s1.nodes.length->zT b f cap [.int .i64 v] B s1 λ c' s' B'=>kU b (k v) s1 c' s' B'
 | .jW x o n k,s,c,s2,B=>s2=s/\x<=9223372036854775807/\n<=s.nodes.length/\∃f cap,c=zA x o n f cap/\plain prog f=true/\∀(v:Bool) (s1:Mm),s.Le s1->zT b f cap [.bool v] B s1 λ c' s' B'=>kU b (k v) s1 c' s' B'
 | .alloc n i k,s,c,s2,B=>kU b (k ((s.nodes.length+1:Nat):Int)) (s.push n i) c s2 B
 | .cell i k,s,c,s2,B=>kU b (k ((s.cs.length+1:Nat):Int)) ⟨s.nodes,s.cs++[i],s.gen⟩ c s2 B
 | .gen k,s,c,s2,B=>kU b (k (s.gen+1)) ⟨s.nodes,s.cs,s.gen+1⟩ c s2 B
 | .node r k,s,c,s2,B=>r<=s.nodes.length/\kU b (k (bA s.nodes r)) s c s2 B
 | .stuck,_,_,_,_=>True
def Eu(b:Nat)(K:Int->Tr)(s:Mm)(f:FuncId)(cap:List Value)(B:Fr):Prop:=plain prog f=true/\∀(v:Int) (s1:Mm),s.Le s1->v<=s1.nodes.length->zT b f cap [.int .i64 v] B s1 λ c' s' B'=>kU b (K v) s1 c' s' B'
def Yc(b:Nat)(K:Bool->Tr)(s:Mm)(f:FuncId)(cap:List Value)(B:Fr):Prop:=plain prog f=true/\∀(v:Bool) (s1:Mm),s.Le s1->zT b f cap [.bool v] B s1 λ c' s' B'=>kU b (K v) s1 c' s' B'
def Th0(b:Nat)(t:Tr)(s:Mm)(f:FuncId)(cap:List Value)(B:Fr):Prop:=plain prog f=true/\∀s1:Mm,s.Le s1->zT b f cap [] B s1 λ c' s' B'=>kU b t s1 c' s' B'
section
variable{b:Nat}{f:FuncId}{cap arg:List Value}{B B2:Fr}{s s1 s2:Mm}{t:Tr}{c:Cd}
theorem zT.more{R R2:Cd->Mm->Fr->Prop}(h:zT b f cap arg B s R)(hb:∀x∈B,x∈B2)(hR:∀c m C C2,(∀x∈C,x∈C2)->R c m C->R2 c m C2):zT b f cap arg B2 s R2:=λ a D A w e1 ok hs h1 h2 hw =>
 (h a D A w e1 ok hs h1 (λ x hx=>h2 x (hb x hx)) hw).mono λ e w' ⟨y,he,⟨hr,h3⟩,hs⟩=>⟨y,he,⟨hR _ _ _ _ (λ x hx=>by
  rcases List.mem_append.1 hx with h1|h1
  ·exact List.mem_append_left _ h1
  ·exact List.mem_append_right _ (hb x h1)) hr,h3⟩,hs⟩
theorem kU.more:∀{t:Tr} {s s2:Mm} {c:Cd} {B B2:Fr},kU b t s c s2 B->(∀x∈B,x∈B2)->kU b t s c s2 B2
 | .done _,_,_,_,_,_,h,_=>h
 | .load _ k,_,_,_,_,_,⟨h0,h1,f,cap,h2,h3,h4⟩,hb=>⟨h0,h1,f,cap,h2,h3,λ v s1 l hv=>(h4 v s1 l hv).more hb λ _ _ _ _ hC h=>kU.more (t:=k v) h hC⟩
 | .jW _ _ _ k,_,_,_,_,_,⟨h0,h1,hn,f,cap,h2,h3,h4⟩,hb=>⟨h0,h1,hn,f,cap,h2,h3,λ v s1 l=>(h4 v s1 l).more hb λ _ _ _ _ hC h=>kU.more (t:=k v) h hC⟩
 | .alloc n i k,s,_,_,_,_,h,hb=>kU.more (t:=k ((s.nodes.length+1:Nat):Int)) h hb
 | .cell i k,s,_,_,_,_,h,hb=>kU.more (t:=k ((s.cs.length+1:Nat):Int)) h hb
 | .gen k,s,_,_,_,_,h,hb=>kU.more (t:=k (s.gen+1)) h hb
 | .node r k,s,_,_,_,_,h,hb=>⟨h.1,kU.more (t:=k (bA s.nodes r)) h.2 hb⟩
 | .stuck,_,_,_,_,_,_,_=>trivial
theorem Eu.more{K:Int->Tr}(h:Eu b K s f cap B)(hb:∀x∈B,x∈B2):Eu b K s f cap B2:=⟨h.1,λ v s1 l hv=>(h.2 v s1 l hv).more hb λ _ _ _ _ hC h=>kU.more h hC⟩
theorem Yc.more{K:Bool->Tr}(h:Yc b K s f cap B)(hb:∀x∈B,x∈B2):Yc b K s f cap B2:=⟨h.1,λ v s1 l=>(h.2 v s1 l).more hb λ _ _ _ _ hC h=>kU.more h hC⟩
theorem Eu.le{K:Int->Tr}(h:Eu b K s f cap B)(l:s.Le s1):Eu b K s1 f cap B:=⟨h.1,λ v s2 l2 hv=>h.2 v s2 (l.trans l2) hv⟩
theorem Yc.le{K:Bool->Tr}(h:Yc b K s f cap B)(l:s.Le s1):Yc b K s1 f cap B:=⟨h.1,λ v s2 l2=>h.2 v s2 (l.trans l2)⟩
theorem kU.kind(h:kU b t s c s2 B)(ha:eE t=true):(c.a.k=0↔t.live=false)/\(∀r,t=.done r->c.r=r)/\(∀x,t.acc=some x->c.a=x):=by
 cases t with
 | done r=>rw[h.2];exact⟨⟨λ _=>rfl,λ _=>rfl⟩,(λ r e=>by cases e;rfl),(λ x e=>nomatch e)⟩
 | load x k =>
  obtain⟨_,_,f,cap,e,_⟩:=h
  rw[e]
  exact⟨⟨λ h=>absurd h (show(1:Int)≠0 by decide),(λ h=>nomatch h)⟩,(λ r e=>nomatch e),λ x e=>by cases e;rfl⟩
 | jW x o n k =>
  obtain⟨_,_,_,f,cap,e,_⟩:=h
  rw[e]
  exact⟨⟨λ h=>absurd h (show(2:Int)≠0 by decide),(λ h=>nomatch h)⟩,(λ r e=>nomatch e),λ x e=>by cases e;rfl⟩
 | alloc n i k=>cases ha
 | cell i k=>cases ha
 | gen k=>cases ha
 | node r k=>cases ha
 | stuck=>cases ha
theorem kU.le(h:kU b t s c s2 B)(ha:eE t=true)(l:s.Le s1):kU b t s1 c s1 B:=by
 cases t with
 | done r=>exact⟨rfl,h.2⟩
 | load x k =>
  obtain⟨_,h1,f,cap,e,hp,hk⟩:=h
  exact⟨rfl,h1,f,cap,e,hp,λ v s3 l3 hv=>hk v s3 (l.trans l3) hv⟩
 | jW x o n k =>
  obtain⟨_,h1,hn,f,cap,e,hp,hk⟩:=h
  exact⟨rfl,h1,by have:=l.len;omega,f,cap,e,hp,λ v s3 l3=>hk v s3 (l.trans l3)⟩
 | alloc n i k=>cases ha
 | cell i k=>cases ha
 | gen k=>cases ha
 | node r k=>cases ha
 | stuck=>cases ha
theorem kU.gF:∀{t:Tr} {s s2:Mm} {c:Cd} {n m:Nat},bW t n m->kU b t s c s2 B->(gF t s).2=s2/\eE (gF t s).1=true/\kU b (gF t s).1 s2 c s2 B
 | .done _,_,_,_,_,_,_,h=>by obtain⟨rfl,h2⟩:=h;exact⟨rfl,rfl,rfl,h2⟩
 | .load _ k,_,_,_,_,_,_,h=>by obtain⟨rfl,h2⟩:=h;exact⟨rfl,rfl,rfl,h2⟩
 | .jW _ _ _ k,_,_,_,_,_,_,h=>by obtain⟨rfl,h2⟩:=h;exact⟨rfl,rfl,rfl,h2⟩
 | .alloc n i k,s,_,_,_,0,ht,h=>ht.elim
 | .alloc n i k,s,_,_,_,_+1,ht,h=>kU.gF (t:=k ((s.nodes.length+1:Nat):Int)) (ht _) h
 | .cell i k,s,_,_,_,0,ht,h=>ht.elim
 | .cell i k,s,_,_,_,_+1,ht,h=>kU.gF (t:=k ((s.cs.length+1:Nat):Int)) (ht _) h
 | .gen k,s,_,_,_,0,ht,h=>ht.elim
 | .gen k,s,_,_,_,_+1,ht,h=>kU.gF (t:=k (s.gen+1)) (ht _) h
 | .node r k,s,_,_,_,_,ht,h=>kU.gF (t:=k (bA s.nodes r)) (ht _) h.2
 | .stuck,_,_,_,_,_,ht,_=>ht.elim
end
section
variable{S:List (Nat×Value)}{w0 w:World}{M:List Nat}{H:List (Nat×Obj)}{A F:Fr}{O:List Ow}{ty:TypeId}{pos:String}{af:Array Edge}{gd:Option (Nat×Bool)}{X:Type}{V:X->Value}
theorem cMf{φ:X->Prop}{hs H':List (Nat×Obj)}{os O':List Ow}{hs' H1:X->List (Nat×Obj)}{os' O1:X->List Ow}{Fc F1:X->Fr}{A0:Fr}{is js:List Nat}{f:FuncId}{cap:List Value}{xs:List Operand}{at_:Array TypeId}{vs:List Value}{dst:Option Nat}{x:Operand}
  (hx:ev S x=.func (.func f) #[] ⟨cap⟩:=by exact rfl) (ha:rP S xs=vs:=by(repeat (first|exact dF _|(apply cL;focus ((conv=>{lhs;whnf});try exact rfl))));first|done|fail) (hp:plain prog f=true)
  (hc:∀w,SF w (Ks hs os) hs A0 [] os w->Calls prog f ⟨vs++cap⟩ w λ e w'=>∃x,e=.returned (V x)/\φ x/\SF w (Ks hs os) (hs' x) [] (Fc x) (os' x) w')
  (hH:nZ H is hs H':=by(repeat (first|exact nZ.nil|(apply nZ.cons;(focus ((repeat (first|exact Bk.head|apply Bk.tail));done));simp only[sP])));first|done|fail)
  (hO:nZ O js os O':=by(repeat (first|exact nZ.nil|(apply nZ.cons;(focus ((repeat (first|exact Bk.head|apply Bk.tail));done));simp only[sP])));first|done|fail)
  (hA:bH A F O' A0:=by exact bH.of (λ _ h=>Or.inr (Or.inl h)))
  (hl1:∀x,is.length=(hs' x).length:=by intro x;exact rfl) (hl2:∀x,js.length=(os' x).length:=by intro x;exact rfl)
  (hH1:∀x,jX is (hs' x) H'=H1 x:=by intro x;first|(simp only[jX,tR];exact rfl)|exact rfl) (hF1:∀x,Fc x++F=F1 x:=by intro x;first|(simp only[List.nil_append,List.cons_append];exact rfl)|exact rfl) (hO1:∀x,jX js (os' x) O'=O1 x:=by intro x;simp only[jX,tR,mW];exact rfl) :
  bG prog S (SF w0 M H A F O) ⟨dst,.call {callee:=.value x,args:=⟨xs⟩,argTypes:=at_},ty,pos,af,gd⟩ X V (λ x w=>φ x/\SF w0 M (H1 x) A (F1 x) (O1 x) w) :=
 iQ (s4 hx hp ha) λ w hw=>(hc w (hw.sV hH hO hA)).mono λ _ _ ⟨x,he,hx,hs⟩=>⟨x,he,hx,by
  have:=hw.Bc (hs':=hs' x) (Hc:=[]) (os':=os' x) (Oc:=[]) hH hO (by simpa using hs) (hl1 x) (hl2 x)
  rw[<- hH1 x,<- hF1 x,<- hO1 x]
  simpa using this⟩
end
end
end Go.Proofs.YtbajmaoegmbfgaaGreat
namespace Go.Ct
open Go Go.RowKit
section
theorem SF.same{w w':World}{b:Nat}{o:Obj}(h:SF w [b] [(b,o)] [] [] [] w')(hb:w.heap[b]?=some o):St w [] [] w' :=
 ⟨h.st.os,h.st.tape,h.st.output,h.st.size,λ k hk _=>by
  by_cases e:k=b
  ·subst e;rw[h.st.has (k,o) (List.mem_singleton.2 rfl),hb]
  ·exact h.st.kN k hk (by simpa using e),λ _ h=>(List.not_mem_nil h).elim,λ _ h=>(List.not_mem_nil h).elim,List.nodup_nil⟩
theorem SF.wv{w:World}{b:Nat}{o:Obj}(hb:w.heap[b]?=some o):SF w [b] [(b,o)] [] [] [] w :=
 ⟨⟨rfl,rfl,rfl,Nat.le_refl _,λ _ _ _=>rfl,λ p hp=>by rw[List.mem_singleton.1 hp];exact hb,λ p hp=>by rw[List.mem_singleton.1 hp];exact .inl (List.mem_singleton.2 rfl),by simp⟩,λ _ h=>(List.not_mem_nil h).elim,λ _ h=>(List.not_mem_nil h).elim,λ _ h=>(List.not_mem_nil h).elim,by simp[Ks]⟩
end
end Go.Ct
namespace Go.Proofs.YtbajmaoegmbfgaaGreat
open Go Go.RowKit Go.Ct
section
abbrev tkC(b:Nat)(c:Cd)(n:Nat)(z:Bool):List Value:=[.iface 42 (.pointer (some ⟨b,0,none⟩)),.int .i64 c.a.k,.int .i64 c.a.c,.int .i64 c.a.o,.int .i64 c.a.n,fnV c.f,fnV c.g,.int .i64 c.r.err,.bool c.r.found,.int .u64 c.r.val,.string c.r.key,.int .i64 c.r.gC,.int .i64 c.r.ref,.int .i64 c.r.root,.bool c.r.ro,.int .i64 ((n:Nat):Int),.bool z]
abbrev tO(b:Nat)(c:Cd)(n:Nat):Obj:=.cells ⟨tkC b c n false⟩ 141 (0,0)
section
variable{D:List Nat}{A B:Fr}{L:List aQ}{cs:List Int}{gen acc:Int}{pn pc:Option Addr}{cn cc b bt n:Nat}{w:World}{c:Cd}
theorem vZ(h:w.heap[bt]?=some (tO b c n)):Calls Tryz.prog 33 #[.pointer (some ⟨bt,0,none⟩)] w λ e w'=>e=.returned (.bool (c.a.k==0))/\St w [] [] w':=by
 refine enter Tryz.func33 Tryz.ntmps33 rfl rfl (SF.wv h) ?_
 simp only[cG]
 refine dA ?_;refine I1 ?_;refine aG ?_;refine J3 ?_;refine Rt ?_
 refine aT Tryz.results33 (λ w hw=>?_)
 exact⟨rfl,hw.aY.same h⟩
theorem T4(h:w.heap[bt]?=some (tO b c n)):Calls Tryz.prog 34 #[.pointer (some ⟨bt,0,none⟩)] w λ e w'=>e=.returned (.agg ⟨(if c.a.k=0 then c.r else Rs.zero).cells⟩)/\St w [] [] w':=by
 refine enter Tryz.func34 Tryz.ntmps34 rfl rfl (SF.wv h) ?_
 simp only[cG]
 refine J0 ?_;refine aL (λ x2=>?_);refine aI ?_;refine kT ?_;refine aP (cV (hc:=λ w1 hw=>vZ (hw.st.at cS))) (λ x4=>?_);refine pE ?_
 refine bC (λ c5=>?_) (λ c5=>?_)
 ·refine Kb8 ?_
  refine bD Tryz.results34 (λ w hw=>?_)
  refine⟨?_,hw.aY.same h⟩
  rw[if_neg (by simpa using c5)]
  rfl
 ·refine aZ ?_;refine I1 ?_;refine aG ?_;refine aD (aU (k:=8) (vs:=c.r.cells) rf cS eT rfl rfl) rfl ?_;refine J5 ?_
  refine bD Tryz.results34 (λ w hw=>?_)
  refine⟨?_,hw.aY.same h⟩
  rw[if_pos (by simpa using c5)]
  rfl
end
end
end Go.Proofs.YtbajmaoegmbfgaaGreat
namespace Go.Ct
open Go Go.RowKit
section
abbrev AS.Xo(a:AS)(cs:List Int):AS:={a with cs:=cs,acc:=up a.acc}
theorem AS.Ok.Xo{a:AS}(ok:a.Ok){x o n:Int}(hn:n<=a.mm.nodes.length):(a.Xo (eG a.cs x o n)).Ok:=⟨ok.fit,ok.mo.jW hn⟩
end
end Go.Ct
namespace Go.Proofs.YtbajmaoegmbfgaaGreat
open Go.Proofs.Tryz (prog)
open Go Go.RowKit Go.Ct
section
section
variable{D:List Nat}{A B:Fr}{a:AS}{b bt n:Nat}{w:World}{c:Cd}{t:Tr}{f:FuncId}{cap:List Value}
theorem gp(h:Th0 b t a.mm f cap B)(ok:a.Ok)(hm:a.mm.Small)(hA:∀f∈aN a.L,f∈A)(hB:∀x∈B,x∈A)(hs:SF w D [(b,eV a)] A [] (fJ a) w) :
  Calls prog 118 #[.func (.func f) #[] ⟨cap⟩] w (Ei b (λ c' s' B'=>kU b t a.mm c' s' B') a B D w):=by
 obtain⟨hp,h⟩:=h
 refine Ti Tryz.func118 Tryz.ntmps118 rfl rfl hs ?_
 simp only[cG]
 refine gD ?_;refine dX ?_;refine wP (λ x2=>?_);refine iN ?_;refine gD ?_;refine dX ?_;(refine gR dH rfl ?_);refine Gs rfl ?_;refine iN ?_;refine gD ?_;refine gD ?_;refine dX ?_;refine pI ?_;refine gR (Lq rf rf (aB3 _ _ _)) rfl ?_;refine iN ?_
 refine Jw (λ c5=>?_) (λ c5=>?_)
 ·exact nv c5
 ·revert c5;(skip);intro c5
  refine Ey ?_;refine gD ?_;refine dX ?_;refine pI ?_;refine As (cMf (V:=λ y:Cd×Fr×AS=>.agg ⟨y.1.cells⟩) (hs:=[(b,eV a)]) (os:=fJ a) (hs':=λ y=>[(b,eV y.2.2)]) (os':=λ y=>fJ y.2.2) (Fc:=λ y=>y.2.1) (A0:=A) (f:=f) (cap:=cap) (vs:=[]) (hp:=hp) (hc:=λ w1 hw=>h a.mm (Mm.Le.refl _) a _ A w1 rfl ok hm hA hB hw)) (λ x8 h8=>?_);refine Ns (jG λ _=>bP rf cS rf (dV _) eT rf lE) (λ _=>?_);refine iN ?_
  refine Ib (Ud _) (by kernel_rfl) Tryz.results118 (.cell rf cS eT .nil) (λ w hw=>?_)
  exact⟨x8,rfl,h8,hw.ret (by repeat (first|exact List.Sublist.refl _|apply List.Sublist.cons)) (aX.iV λ f hf=>by simpa using hf) (List.Sublist.refl _)⟩
theorem Hj{x:Int}{k:Int->Tr}(hr:kU b (.load x k) a.mm c a.mm B)(ok:a.Ok)(hm:a.mm.Small)(hA:∀f∈aN a.L,f∈A)(hB:∀x∈B,x∈A)(hs:SF w D [(b,eV a)] A [] (fJ a) w) :
  Calls prog 86 #[.iface 42 (.pointer (some ⟨b,0,none⟩)),.agg ⟨c.cells⟩] w (Ei b (λ c' s' B'=>kU b (k (aS a.cs x)) a.mm c' s' B') a B D w):=by
 obtain⟨_,hx,f,cap,rfl,hp,hk⟩:=hr
 have hl:a.cs.length<=274877906944:=by have:=hm.2;show a.mm.cs.length<=_;omega
 have hv:aS a.cs x<=a.mm.nodes.length:=ok.mo.cell x
 refine Ti Tryz.func86 Tryz.ntmps86 rfl rfl hs ?_
 simp only[cG]
 refine gD ?_;refine dX ?_;refine ef (λ x3=>?_);refine wP (λ x4=>?_);refine iN ?_;refine gD ?_;refine dX ?_;(refine gR dH rfl ?_);refine Gs rfl ?_;refine iN ?_;refine gD ?_;refine dX ?_;refine eO ?_;refine gR (aU (k:=4) (vs:=(uI x f cap).a.cells) rf cS eT rfl rfl) rfl ?_;refine wP (λ x5=>?_);refine Qx (λ _=>?_);refine iN ?_;refine gD ?_;refine gD ?_;refine dX ?_;refine eO ?_;refine oC ?_;refine im ?_;refine iN ?_
 refine Jw (λ c13=>?_) (λ c13=>?_)
 ·revert c13;(refine cv1 ?_);intro c13
  refine gD ?_;refine dX ?_;refine zF (λ _=>?_);refine iN ?_;refine gD ?_;refine gD ?_;refine dX ?_;refine pI ?_;refine gR (Vz rf rf (Dx _)) rfl ?_;refine iN ?_
  refine Jw (λ c15=>?_) (λ c15=>?_)
  ·revert c15;(skip);intro c15
   refine dX ?_;refine pI ?_;refine eO ?_;refine oC ?_;refine As (cMI (V:=λ _:Unit=>.int .i64 (aS a.cs x)) (os':=λ _=>fJ (a.Xo a.cs)) (hs':=λ _=>[(b,eV (a.Xo a.cs))]) (Fc:=λ _=>[]) (A0:=A) (hm:=λ w=>ap _ _ w) (hc:=λ w hw=>Vo hw x hx hl)) (λ x19 h19=>?_);refine zF (λ _=>?_);refine iN ?_;refine gD ?_;refine gD ?_;refine dX ?_;refine eO ?_;refine oC ?_;refine gR (Lq rf rf (aBm _ _ _)) rfl ?_;refine iN ?_
   refine Jw (λ c22=>?_) (λ c22=>?_)
   ·exact nv c22
   ·revert c22;(skip);intro c22
    refine Ey ?_;refine gD ?_;refine dX ?_;refine eO ?_;refine oC ?_;refine pI ?_;refine As (cMf (V:=λ y:Cd×Fr×AS=>.agg ⟨y.1.cells⟩) (hs:=[(b,eV (a.Xo a.cs))]) (os:=fJ (a.Xo a.cs)) (hs':=λ y=>[(b,eV y.2.2)]) (os':=λ y=>fJ y.2.2) (Fc:=λ y=>y.2.1) (A0:=A) (f:=f) (cap:=cap) (vs:=[.int .i64 (aS a.cs x)]) (hp:=hp) (hc:=λ w1 hw=>hk (aS a.cs x) a.mm (Mm.Le.refl _) hv (a.Xo a.cs) _ A w1 rfl ⟨ok.fit,ok.mo⟩ hm hA hB hw)) (λ x27 h27=>?_);refine Ns (jG λ _=>bP rf cS rf (dV _) eT rf lE) (λ _=>?_);refine iN ?_
    refine Ib (zC _) (by kernel_rfl) Tryz.results86 (.cell rf cS eT .nil) (λ w hw=>?_)
    exact⟨x27,rfl,⟨h27.1,h27.2.1,⟨h27.2.2.le,h27.2.2.fam⟩⟩,hw.ret (by repeat (first|exact List.Sublist.refl _|apply List.Sublist.cons)) (aX.iV λ f hf=>by simpa using hf) (List.Sublist.refl _)⟩
  ·exact nv c15
 ·revert c13;(refine cv2 ?_);intro c13
  exact(c13 rfl).elim
theorem Jg{x o n:Int}{k:Bool->Tr}(hr:kU b (.jW x o n k) a.mm c a.mm B)(ok:a.Ok)(hm:a.mm.Small)(hA:∀f∈aN a.L,f∈A)(hB:∀x∈B,x∈A)(hs:SF w D [(b,eV a)] A [] (fJ a) w) :
  Calls prog 86 #[.iface 42 (.pointer (some ⟨b,0,none⟩)),.agg ⟨c.cells⟩] w (Ei b (λ c' s' B'=>kU b (k (Ix a.cs x o)) ⟨a.mm.nodes,eG a.cs x o n,a.gen⟩ c' s' B') a B D w):=by
 obtain⟨_,hx,hn,f,cap,rfl,hp,hk⟩:=hr
 have hl:a.cs.length<=274877906944:=by have:=hm.2;show a.mm.cs.length<=_;omega
 have hle:a.mm.Le ⟨a.mm.nodes,eG a.cs x o n,a.gen⟩:=⟨⟨[],by simp⟩,by show a.cs.length<=(eG a.cs x o n).length;rw[fN];exact Nat.le_refl _⟩
 have hm2:Mm.Small ⟨a.mm.nodes,eG a.cs x o n,a.gen⟩:=⟨hm.1,by show(eG a.cs x o n).length<=_;rw[fN];exact hm.2⟩
 refine Ti Tryz.func86 Tryz.ntmps86 rfl rfl hs ?_
 simp only[cG]
 refine gD ?_;refine dX ?_;refine ef (λ x3=>?_);refine wP (λ x4=>?_);refine iN ?_;refine gD ?_;refine dX ?_;(refine gR dH rfl ?_);refine Gs rfl ?_;refine iN ?_;refine gD ?_;refine dX ?_;refine eO ?_;refine gR (aU (k:=4) (vs:=(zA x o n f cap).a.cells) rf cS eT rfl rfl) rfl ?_;refine wP (λ x5=>?_);refine Qx (λ _=>?_);refine iN ?_;refine gD ?_;refine gD ?_;refine dX ?_;refine eO ?_;refine oC ?_;refine im ?_;refine iN ?_
 refine Jw (λ c13=>?_) (λ c13=>?_)
 ·revert c13;(refine cv1 ?_);intro c13
  exact absurd (show(2:Int)=1 from c13) (by decide)
 ·revert c13;(refine cv2 ?_);intro c13
  refine Ey ?_;refine gD ?_;refine dX ?_;refine pI ?_;refine gR (Vz rf rf (Dx _)) rfl ?_;refine pI ?_
  (refine wT ?_;refine pI ?_)
  ((refine wT ?_;refine eO ?_));((refine wT ?_;refine oC ?_));((refine wT ?_;refine eO ?_));((refine wT ?_;refine oC ?_));((refine wT ?_;refine eO ?_));((refine wT ?_;refine oC ?_));((refine wT ?_;refine As (cMI (V:=Value.bool) (os':=λ _=>fJ (a.Xo (eG a.cs x o n))) (hs':=λ _=>[(b,eV (a.Xo (eG a.cs x o n)))]) (Fc:=λ _=>[]) (A0:=A) (hm:=λ w=>qe _ _ _ _ w) (hc:=λ w hw=>aAn hw x o n hx hl)) (λ x38 h38=>?_)));refine qo ?_;refine zF (λ _=>?_);refine iN ?_;refine gD ?_;refine gD ?_;refine dX ?_;refine eO ?_;refine oC ?_;refine gR (Lq rf rf (aA6 _ _ _)) rfl ?_;refine iN ?_
  refine Jw (λ c42=>?_) (λ c42=>?_)
  ·exact nv c42
  ·revert c42;(skip);intro c42
   refine Ey ?_;refine gD ?_;refine dX ?_;refine eO ?_;refine oC ?_;refine pI ?_;refine As (cMf (V:=λ y:Cd×Fr×AS=>.agg ⟨y.1.cells⟩) (hs:=[(b,eV (a.Xo (eG a.cs x o n)))]) (os:=fJ (a.Xo (eG a.cs x o n))) (hs':=λ y=>[(b,eV y.2.2)]) (os':=λ y=>fJ y.2.2) (Fc:=λ y=>y.2.1) (A0:=A) (f:=f) (cap:=cap) (vs:=[.bool x38]) (hp:=hp) (hc:=λ w1 hw=>hk x38 _ hle (a.Xo (eG a.cs x o n)) _ A w1 rfl (ok.Xo hn) hm2 hA hB hw)) (λ x47 h47=>?_);refine Ns (jG λ _=>bP rf cS rf (dV _) eT rf lE) (λ _=>?_);refine iN ?_
   refine Ib (zC _) (by kernel_rfl) Tryz.results86 (.cell rf cS eT .nil) (λ w hw=>?_)
   exact⟨x47,rfl,⟨Mg h38▸h47.1,h47.2.1,⟨hle.trans h47.2.2.le,h47.2.2.fam⟩⟩,hw.ret (by repeat (first|exact List.Sublist.refl _|apply List.Sublist.cons)) (aX.iV λ f hf=>by simpa using hf) (List.Sublist.refl _)⟩
def rQ(b:Nat)(p:Tr×Mm)(a:AS)(B:Fr)(y:Cd×Fr×AS):Prop:=(kU b p.1 p.2 y.1 p.2 (y.2.1++B)/\y.2.2.mm=p.2)/\y.2.2.Ok/\a.jM y.2.2 y.2.1
theorem rQ.of{t0:Tr}{s0:Mm}{y:Cd×Fr×AS}{i m:Nat}(ht:bW t0 i m)(h:kU b t0 s0 y.1 y.2.2.mm (y.2.1++B)/\y.2.2.Ok/\a.jM y.2.2 y.2.1):rQ b (Ct.gF t0 s0) a B y/\eE (Ct.gF t0 s0).1=true:=by
 obtain⟨h1,h2,h3⟩:=kU.gF ht h.1
 exact⟨⟨⟨by rw[h1];exact h3,h1.symm⟩,h.2⟩,h2⟩
theorem Rf{i m:Nat}(ht:bW t (i+1) m)(ha:eE t=true)(hlv:t.live=true)(hr:kU b t a.mm c a.mm B)(ok:a.Ok)(hm:a.mm.Small)(hA:∀f∈aN a.L,f∈A)(hB:∀x∈B,x∈A)(hs:SF w D [(b,eV a)] A [] (fJ a) w) :
  Calls prog 86 #[.iface 42 (.pointer (some ⟨b,0,none⟩)),.agg ⟨c.cells⟩] w λ e w'=>∃y:Cd×Fr×AS,e=.returned (.agg ⟨y.1.cells⟩)/\(rQ b (rB (t,a.mm)) a B y/\eE (rB (t,a.mm)).1=true)/\SF w D [(b,eV y.2.2)] [] y.2.1 (fJ y.2.2) w':=by
 cases t with
 | done r=>cases hlv
 | load x k=>exact(Hj hr ok hm hA hB hs).mono λ e w' ⟨y,he,h,hw⟩=>⟨y,he,rQ.of (ht _) h,hw⟩
 | jW x o n k=>exact(Jg hr ok hm hA hB hs).mono λ e w' ⟨y,he,h,hw⟩=>⟨y,he,rQ.of (ht _) h,hw⟩
 | alloc n i k=>cases ha
 | cell i k=>cases ha
 | gen k=>cases ha
 | node r k=>cases ha
 | stuck=>cases ha
theorem Kr{i m:Nat}(ht:bW t (i+1) m)(ha:eE t=true)(hlv:t.live=true)(hr:kU b t a.mm c a.mm B)(ok:a.Ok)(hm:a.mm.Small)(hn:n<1000000000)(hA:∀f∈aN a.L,f∈A)(hB:∀x∈B,x∈A)(hs:SF w D [(bt,tO b c n),(b,eV a)] A [] (fJ a) w) :
  Calls prog 37 #[.pointer (some ⟨bt,0,none⟩)] w λ e w'=>∃y:Cd×Fr×AS,e=.returned (.tuple #[])/\(rQ b (rB (t,a.mm)) a B y/\eE (rB (t,a.mm)).1=true)/\SF w D [(bt,tO b y.1 (n+1)),(b,eV y.2.2)] [] y.2.1 (fJ y.2.2) w':=by
 have hk:c.a.k≠0:=λ e=>by have:=(hr.kind ha).1.1 e;rw[hlv] at this;cases this
 refine enter Tryz.func37 Tryz.ntmps37 rfl rfl hs ?_
 simp only[cG]
 refine kT ?_;refine aP (cV (hc:=λ w1 hw=>vZ (hw.st.at cS))) (λ x3=>?_);refine aB ?_
 (refine eI 4 (λ g4=>?_) (λ g4=>?_)<;>(try (exfalso;omega))<;>((refine Ka3 ?_)))
 ((refine aF ?_;refine dI ?_));refine J6 ?_;refine cA ?_;refine aI ?_
 refine bC (λ c9=>?_) (λ c9=>?_)
 ·exact nv c9
 ·try (exfalso;omega)
  refine aZ ?_;refine J13 ?_;refine vL ?_;refine mK ?_;refine Ha ?_;refine Nw ?_;refine aV ?_;refine gZ [0,1,2,3,4,5,6,7,8,9,10,11,12] ?_;refine Zg ?_;refine J9 ?_;refine bU (i:=8) (hq:=(aU (k:=14) (vs:=c.cells) rf cS eT rfl rfl)) (h:=?_);refine bE (i:=9) (hq:=(cM (V:=λ y:Cd×Fr×AS=>.agg ⟨y.1.cells⟩) (Fc:=λ y=>y.2.1) (hs:=[(b,eV a)]) (os:=fJ a) (A0:=A) (hs':=λ y=>[(b,eV y.2.2)]) (os':=λ y=>fJ y.2.2) (hc:=λ w hw=>Rf ht ha hlv hr ok hm hA hB hw))) (h:=λ x29 h29=>?_);refine J4 ?_;refine kW (i:=12) (hq:=(jG λ _=>lV (off:=1) (vs:=x29.1.cells) (cs:=tkC b x29.1 (n+1) true) rf cS rf (dV _) eT (Nat.le_of_ble_eq_true rfl) rf lE)) (h:=λ _=>?_);refine eL ?_;refine xK ?_;refine Nw ?_
  refine B6 Tryz.results37 (λ w hw=>?_)
  exact⟨x29,rfl,h29,hw.ret (List.Sublist.refl _) (aX.iV λ f hf=>by simpa using hf) (List.Sublist.refl _)⟩
theorem kj{i m:Nat}(ht:bW t i m)(h:Th0 b t a.mm f cap B)(ok:a.Ok)(hm:a.mm.Small)(hA:∀f∈aN a.L,f∈A)(hB:∀x∈B,x∈A)(hs:SF w D [(b,eV a)] A [] (fJ a) w) :
  Calls prog 73 #[.iface 42 (.pointer (some ⟨b,0,none⟩)),.func (.func f) #[] ⟨cap⟩] w λ e w'=>∃x:Nat×Cd×Fr×AS,e=.returned (.pointer (some ⟨x.1,0,none⟩))/\(rQ b (Ct.gF t a.mm) a B x.2/\eE (Ct.gF t a.mm).1=true)/\SF w D [(x.1,tO b x.2.1 0),(b,eV x.2.2.2)] [] x.2.2.1 (fJ x.2.2.2) w':=by
 refine enter Tryz.func73 Tryz.ntmps73 rfl rfl hs ?_
 simp only[cG]
 refine Kc7 ?_;refine bO ?_;refine bM (λ x8=>?_);refine zZ ?_;refine aE (cM (V:=λ y:Cd×Fr×AS=>.agg ⟨y.1.cells⟩) (Fc:=λ y=>y.2.1) (hs:=[(b,eV a)]) (os:=fJ a) (A0:=A) (hs':=λ y=>[(b,eV y.2.2)]) (os':=λ y=>fJ y.2.2) (hc:=λ w1 hw=>gp h ok hm hA hB hw)) (λ x11 h11=>?_);refine N5 ?_;refine cR (jG λ _=>lV (off:=1) (vs:=x11.1.cells) (cs:=tkC b x11.1 0 false) rf cS rf (dV _) eT (Nat.le_of_ble_eq_true rfl) rf lE) (λ _=>?_);refine aI ?_;refine Ka5 ?_
 refine aT Tryz.results73 (λ w hw=>?_)
 exact⟨(x8,x11),rfl,rQ.of ht h11,hw.ret (List.Sublist.refl _) (aX.iV λ f hf=>by simpa using hf) (List.Sublist.refl _)⟩
end
end
section
theorem mV:∀{t:Tr} {n c:Nat} (s:Mm),bW t n c->∀c',bW (gF t s).1 n c'
 | .done _,_,_,_,_,_=>trivial
 | .load _ _,0,_,_,_,_=>trivial
 | .load _ _,_+1,_,_,h,_=>h
 | .jW _ _ _ _,0,_,_,_,_=>trivial
 | .jW _ _ _ _,_+1,_,_,h,_=>h
 | .alloc _ _ _,_,0,_,h,_=>h.elim
 | .alloc n i k,_,_+1,s,h,c'=>mV (s.push n i) (h _) c'
 | .cell _ _,_,0,_,h,_=>h.elim
 | .cell i k,_,_+1,s,h,c'=>mV ⟨s.nodes,s.cs++[i],s.gen⟩ (h _) c'
 | .gen _,_,0,_,h,_=>h.elim
 | .gen k,_,_+1,s,h,c'=>mV ⟨s.nodes,s.cs,s.gen+1⟩ (h _) c'
 | .node r k,_,_,s,h,c'=>mV (t:=k (bA s.nodes r)) s (h (bA s.nodes r)) c'
 | .stuck,_,_,_,h,_=>h.elim
theorem oT:∀{t:Tr} {n c:Nat} (s:Mm),bW t n c->eE (gF t s).1=true
 | .done _,_,_,_,_=>rfl
 | .load _ _,_,_,_,_=>rfl
 | .jW _ _ _ _,_,_,_,_=>rfl
 | .alloc _ _ _,_,0,_,h=>h.elim
 | .alloc n i k,_,_+1,s,h=>oT (s.push n i) (h _)
 | .cell _ _,_,0,_,h=>h.elim
 | .cell i k,_,_+1,s,h=>oT ⟨s.nodes,s.cs++[i],s.gen⟩ (h _)
 | .gen _,_,0,_,h=>h.elim
 | .gen k,_,_+1,s,h=>oT ⟨s.nodes,s.cs,s.gen+1⟩ (h _)
 | .node r k,_,_,s,h=>oT (t:=k (bA s.nodes r)) s (h (bA s.nodes r))
 | .stuck,_,_,_,h=>h.elim
theorem qM:∀{t:Tr} {n c:Nat} (s:Mm),bW t n c->(gF t s).2.nodes.length<=s.nodes.length+c/\(gF t s).2.cs.length<=s.cs.length+c
 | .done _,_,_,_,_=>⟨Nat.le_add_right _ _,Nat.le_add_right _ _⟩
 | .load _ _,_,_,_,_=>⟨Nat.le_add_right _ _,Nat.le_add_right _ _⟩
 | .jW _ _ _ _,_,_,_,_=>⟨Nat.le_add_right _ _,Nat.le_add_right _ _⟩
 | .alloc _ _ _,_,0,_,h=>h.elim
 | .alloc n i k,_,c+1,s,h=>by
  have h2:=qM (s.push n i) (h ((s.nodes.length+1:Nat):Int))
  have hl:=jY (k:=n.kind) (cs:=s.cs) (init:=i)
  simp only[Mm.push,List.length_append,List.length_cons,List.length_nil] at h2
  show(gF (k _) (s.push n i)).2.nodes.length<=_/\(gF (k _) (s.push n i)).2.cs.length<=_
  simp only[Mm.push]
  omega
 | .cell _ _,_,0,_,h=>h.elim
 | .cell i k,_,c+1,s,h=>by
  have h2:=qM ⟨s.nodes,s.cs++[i],s.gen⟩ (h ((s.cs.length+1:Nat):Int))
  simp only[List.length_append,List.length_cons,List.length_nil] at h2
  show(gF (k _) _).2.nodes.length<=_/\(gF (k _) _).2.cs.length<=_
  omega
 | .gen _,_,0,_,h=>h.elim
 | .gen k,_,c+1,s,h=>by
  have h2:=qM ⟨s.nodes,s.cs,s.gen+1⟩ (h (s.gen+1))
  dsimp only at h2
  show(gF (k _) _).2.nodes.length<=_/\(gF (k _) _).2.cs.length<=_
  omega
 | .node r k,_,c,s,h=>qM (t:=k (bA s.nodes r)) s (h (bA s.nodes r))
 | .stuck,_,_,_,h=>h.elim
theorem Rb{t:Tr}{n c:Nat}(s:Mm)(ht:bW t (n+1) c)(ha:eE t=true)(c':Nat):bW (rB (t,s)).1 n c':=by
 cases t with
 | done r=>trivial
 | load x k=>exact mV _ (ht _) c'
 | jW x o m k=>exact mV _ (ht _) c'
 | alloc n i k=>cases ha
 | cell i k=>cases ha
 | gen k=>cases ha
 | node r k=>cases ha
 | stuck=>cases ha
theorem m9{t:Tr}{n c:Nat}(s:Mm)(ht:bW t (n+1) c)(ha:eE t=true):eE (rB (t,s)).1=true:=by
 cases t with
 | done r=>rfl
 | load x k=>exact oT _ (ht _)
 | jW x o m k=>exact oT _ (ht _)
 | alloc n i k=>cases ha
 | cell i k=>cases ha
 | gen k=>cases ha
 | node r k=>cases ha
 | stuck=>cases ha
theorem Qu{t:Tr}{n c:Nat}(s:Mm)(ht:bW t (n+1) c)(ha:eE t=true):(rB (t,s)).2.nodes.length<=s.nodes.length+64/\(rB (t,s)).2.cs.length<=s.cs.length+64:=by
 cases t with
 | done r=>exact⟨Nat.le_add_right _ _,Nat.le_add_right _ _⟩
 | load x k=>exact qM s (ht _)
 | jW x o m k =>
  have:=qM ⟨s.nodes,eG s.cs x o m,s.gen⟩ (ht (Ix s.cs x o))
  simp only[fN] at this
  exact this
 | alloc n i k=>cases ha
 | cell i k=>cases ha
 | gen k=>cases ha
 | node r k=>cases ha
 | stuck=>cases ha
theorem Aq{t:Tr}{n:Nat}{s:Mm}(ht:bW t n 64)(ha:eE t=true):∀k,k<=n->bW (gI (t,s) k).1 (n-k) 64/\eE (gI (t,s) k).1=true/\(gI (t,s) k).2.nodes.length<=s.nodes.length+64*k/\(gI (t,s) k).2.cs.length<=s.cs.length+64*k
 | 0,_=>⟨ht,ha,Nat.le_refl _,Nat.le_refl _⟩
 | k+1,h=>by
  obtain⟨h1,h2,h3,h4⟩:=Aq ht ha k (by omega)
  rw[show n-k=n-(k+1)+1 by omega] at h1
  have h5:(rB (gI (t,s) k)).2.nodes.length<=(gI (t,s) k).2.nodes.length+64/\(rB (gI (t,s) k)).2.cs.length<=(gI (t,s) k).2.cs.length+64:=Qu (gI (t,s) k).2 h1 h2
  exact⟨Rb _ h1 h2 64,m9 _ h1 h2,by show(rB (gI (t,s) k)).2.nodes.length<=_;omega,by show(rB (gI (t,s) k)).2.cs.length<=_;omega⟩
def rR(p:Tr×Mm):Nat->Nat
 | 0=>0
 | k+1=>rR p k+if(gI p k).1.live=true then 1 else 0
theorem Ra{p:Tr×Mm}(h:p.1.live=false):rB p=p:=by
 obtain⟨t,s⟩:=p
 cases t<;>first|rfl|cases h
theorem Og{p:Tr×Mm}{j:Nat}(h:(gI p j).1.live=false):∀k,gI p (j+k)=gI p j/\rR p (j+k)=rR p j
 | 0=>⟨rfl,rfl⟩
 | k+1=>by
  obtain⟨h1,h2⟩:=Og h k
  refine⟨?_,?_⟩
  ·show rB (gI p (j+k))=_
   rw[h1,Ra h]
  ·show rR p (j+k)+(if(gI p (j+k)).1.live=true then 1 else 0)=_
   rw[h1,h2,h]
   rfl
theorem Ci{p:Tr×Mm}{j k:Nat}(h:(gI p j).1.live=false)(hk:j<=k):gI p k=gI p j/\rR p k=rR p j:=by
 have:=Og h (k-j)
 rwa [show j+(k-j)=k by omega] at this
structure v9(b:Nat)(p:Tr×Mm)(a:AS)(B:Fr)(y:Cd×Fr×AS):Prop where
 rp:kU b p.1 p.2 y.1 p.2 (y.2.1++B)
 mm:y.2.2.mm=p.2
 ok:y.2.2.Ok
 gr:a.jM y.2.2 y.2.1
theorem v9.of{b:Nat}{p:Tr×Mm}{a:AS}{B:Fr}{y:Cd×Fr×AS}(h:rQ b p a B y):v9 b p a B y:=⟨h.1.1,h.1.2,h.2.1,h.2.2⟩
theorem lu{b:Nat}{t:Tr}{s:Mm}{c:Cd}{B:Fr}(h:kU b t s c s B)(ha:eE t=true):(c.a.k≠0↔t.live=true):=by
 have:=(h.kind ha).1
 cases hl:t.live with
 | false=>rw[hl] at this;exact⟨λ hn=>absurd (this.2 rfl) hn,λ h=>nomatch h⟩
 | true=>rw[hl] at this;exact⟨λ _=>rfl,λ _ e=>nomatch this.1 e⟩
section
variable{D:List Nat}{A B:Fr}{a:AS}{b bt n:Nat}{w:World}{c:Cd}{t:Tr}
theorem Qs{most m:Nat}(ht:bW t m 64)(hmm:most<=m)(ha:eE t=true)(hr:kU b t a.mm c a.mm B)(ok:a.Ok)(hm:a.mm.nodes.length+64*most<=137438953472/\a.mm.cs.length+64*most<=137438953472)(hn:n+most<1000000000)(hA:∀f∈aN a.L,f∈A)(hB:∀x∈B,x∈A)(hs:SF w D [(bt,tO b c n),(b,eV a)] A [] (fJ a) w) :
    Calls prog 30 #[.pointer (some ⟨bt,0,none⟩),.int .i64 ((most:Nat):Int)] w λ e w'=>∃y:Cd×Fr×AS,e=.returned (.int .i64 ((rR (t,a.mm) most:Nat):Int))/\v9 b (gI (t,a.mm) most) a B y/\SF w D [(bt,tO b y.1 (n+rR (t,a.mm) most)),(b,eV y.2.2)] [] y.2.1 (fJ y.2.2) w':=by
  have hall:=λ k hk=>Aq (s:=a.mm) ht ha k hk
  refine enter Tryz.func30 Tryz.ntmps30 rfl rfl hs ?_
  simp only[cG]
  refine dA ?_;refine dA ?_;refine D2 ?_
  refine nT [5,6,7,8,9,10,11,12,13,14,15,16,17,18,19,20,21,22,23,24] (λ y:Nat×Cd×Fr×AS=>[(5,.int .i64 ((y.1:Nat):Int))]) (λ y=>y.1<=most/\v9 b (gI (t,a.mm) y.1) a B y.2/\rR (t,a.mm) y.1=y.1) (λ y=>[(bt,tO b y.2.1 (n+y.1)),(b,eV y.2.2.2)]) (λ y=>y.2.2.1) (λ y=>fJ y.2.2.2) (λ y=>most-y.1) ((0,c,[],a)) (⟨Nat.zero_le _,⟨hr,rfl,ok,AS.jM.refl a⟩,rfl⟩) (λ y f hx=>?_) (hw0:=λ w hw=>hw)
  dsimp only[iC,List.map,List.cons_append,List.nil_append]
  obtain⟨h1,h2,h3,h4⟩:=hall y.1 (by omega)
  have hrp:kU b (gI (t,a.mm) y.1).1 y.2.2.2.mm y.2.1 y.2.2.2.mm (y.2.2.1++B):=by rw[hx.2.1.mm];exact hx.2.1.rp
  have hsm:y.2.2.2.mm.Small:=by rw[hx.2.1.mm];exact⟨by omega,by omega⟩
  have hli:=lu hx.2.1.rp h2
  refine C4 ?_;refine Ca ?_
  (refine eI 9 (λ g9=>?_) (λ g9=>?_)<;>refine Ka0 ?_)
  all_goals ((first|refine aJ ?_|(refine aF ?_;refine aP (cV (hc:=λ w1 hw=>vZ (hw.st.at cS))) (λ x11=>?_)));refine Ny ?_;refine aB ?_)
  all_goals (first|refine aJ ?_|(refine eI 14 (λ g14=>?_) (λ g14=>?_)<;>refine Ka0 ?_))
  all_goals (refine Kb4 ?_;refine J6 ?_;refine Kc0 ?_)
  all_goals
   refine bC (λ c20=>?_) (λ c20=>?_)
   · try exact nv c20
     all_goals (refine aZ ?_;refine cW ?_;refine J2 ?_;refine aE (cM (V:=λ _:Cd×Fr×AS=>.tuple #[]) (hs:=[(bt,tO b y.2.1 (n+y.1)),(b,eV y.2.2.2)]) (os:=fJ y.2.2.2) (Fc:=λ z=>z.2.1) (A0:=aN y.2.2.2.L++(y.2.2.1++B)) (hs':=λ z=>[(bt,tO b z.1 (n+y.1+1)),(b,eV z.2.2)]) (os':=λ z=>fJ z.2.2) (hA:=bH.of λ f hf=>(List.mem_append.1 hf).elim (λ h1=>(hx.2.1.gr.fam f h1).elim .inl λ h2=>h2.elim (λ h3=>.inr (.inl (hA f h3))) λ h3=>.inr (.inr (.inl h3))) λ h1=>(List.mem_append.1 h1).elim (λ h2=>.inr (.inr (.inl h2))) λ h2=>.inr (.inl (hB f h2))) (hc:=λ w hw=>Kr (i:=m-(y.1+1)) (m:=64) (by rw[show m-(y.1+1)+1=m-y.1 by omega];exact h1) h2 (hli.1 g14) hrp hx.2.1.ok hsm (by omega) (λ f hf=>List.mem_append_left _ hf) (λ f hf=>List.mem_append_right _ hf) hw)) (λ x22 h22=>?_);refine aI ?_;refine uU ?_;refine fG ?_)
     all_goals
      refine iO ((y.1+1,x22.1,x22.2.1++y.2.2.1,x22.2.2)) ?_ (hw1:=λ w hw=>hw)
      · have e1:gI (t,a.mm) (y.1+1)=rB ((gI (t,a.mm) y.1).1,y.2.2.2.mm):=by rw[hx.2.1.mm];rfl
        have h5:=v9.of h22.1
        have hlv:=hli.1 g14
        refine⟨by show y.1+1<=most;omega,⟨?_,?_,h5.ok,hx.2.1.gr.trans h5.gr⟩,?_⟩
        · rw[e1]
          show kU b _ _ _ _ (x22.2.1++y.2.2.1++B)
          rw[List.append_assoc]
          exact h5.rp
        · rw[e1];exact h5.mm
        · show rR (t,a.mm) y.1+_=y.1+1
          rw[hlv,hx.2.2]
          rfl
   · try exact nv c20
     all_goals (refine bT rfl ?_;refine Ka5 ?_)
     all_goals
      refine aT Tryz.results30 (λ w hw=>?_)
      have e:gI (t,a.mm) most=gI (t,a.mm) y.1/\rR (t,a.mm) most=y.1:=by
       first
        | (have h:=Ci (Bool.eq_false_iff.2 λ h=>hli.2 h g14) hx.1;exact⟨h.1,h.2.trans hx.2.2⟩)
        | (have em:most=y.1:=(by have:=hx.1;omega);rw[em];exact⟨rfl,hx.2.2⟩)
      rw[e.1,e.2]
      exact⟨y.2,rfl,hx.2.1,hw.ret (List.Sublist.refl _) (aX.iV λ f hf=>hf) (List.Sublist.refl _)⟩
end
end
end Go.Proofs.YtbajmaoegmbfgaaGreat
namespace Go.Ct
open Go Go.RowKit
section
section
variable{α:Type}
end
end
end Go.Ct
namespace Go.Proofs.YtbajmaoegmbfgaaGreat
open Go Go.RowKit Go.Ct
section
structure PX where
 e:EX
 m:Nat
 tb:Nat
 c:Cd
 n:Nat
structure LS where
 a:AS
 z:XS
 l:List PX
 B:Fr
section
variable{ba bm:Nat}
end
section
variable{ba bm Bz C:Nat}{D:List Nat}{A:Fr}{w:World}{a:AS}{z:XS}{l1 l2:List PX}{p:PX}{B:Fr}
end
end
end Go.Proofs.YtbajmaoegmbfgaaGreat
namespace Go.Ct
open Go Go.RowKit
section
section
variable{P:Program}{w:World}
variable{S:List (Nat×Value)}{G:World->Prop}{d:Nat}{ty t t':TypeId}{pos:String}{af:Array Edge}{gd:Option (Nat×Bool)}{x y:Operand}
instance:DecidableEq Ac:=λ a b=>if h:a.k=b.k/\a.c=b.c/\a.o=b.o/\a.n=b.n then isTrue (by cases a;cases b;simp_all) else isFalse (λ e=>h (by subst e;exact⟨rfl,rfl,rfl,rfl⟩))
instance:DecidableEq Rs:=λ a b=>if h:a.err=b.err/\a.found=b.found/\a.val=b.val/\a.key=b.key/\a.gC=b.gC/\a.ref=b.ref/\a.root=b.root/\a.ro=b.ro then isTrue (by cases a;cases b;simp_all) else isFalse (λ e=>h (by subst e;exact⟨rfl,rfl,rfl,rfl,rfl,rfl,rfl,rfl⟩))
end
end
end Go.Ct
namespace Go.Proofs.YtbajmaoegmbfgaaGreat
open Go Go.RowKit Go.Ct
section
end
section
section
variable{k:Cl}{ba bx bm tb n:Nat}{x:XS}{c:Cd}{rs:Rs}{D:List Nat}{A:Fr}{w:World}
theorem Af{bt:Nat}{d:Bool}(hd:(c.a.k==0)=d)(h:w.heap[bt]?=some (tO ba c n)):Calls Tryz.prog 33 #[.pointer (some ⟨bt,0,none⟩)] w λ e w'=>e=.returned (.bool d)/\St w [] [] w':=by
 subst hd
 exact vZ h
theorem kH{bt:Nat}{d:Bool}{r:Rs}(hd:(c.a.k==0)=d)(ha:(if d=true then c.r else Rs.zero)=r)(h:w.heap[bt]?=some (tO ba c n)):Calls Tryz.prog 34 #[.pointer (some ⟨bt,0,none⟩)] w λ e w'=>e=.returned (.agg ⟨r.cells⟩)/\St w [] [] w':=by
 subst hd ha
 have:=T4 h
 simp only[beq_iff_eq] at this ⊢
 exact this
end
end
section
section
variable{ba bm Bz C:Nat}{D:List Nat}{A:Fr}{w:World}{S:LS}
end
section
variable{ba bm Bz C tp:Nat}{D:List Nat}{w:World}{S:LS}{l:List Int}{a pa:Option Addr}{c pc pos:Nat}
end
end
section
section
variable{ba bm Bz C:Nat}{D:List Nat}{A:Fr}{w:World}{S:LS}{ps:List (Nat×Nat)}
end
end
end Go.Proofs.YtbajmaoegmbfgaaGreat
namespace Go.Ct
open Go Go.RowKit
section
abbrev bx(b:Nat)(cs:List Value):Option Addr×List Value:=(some ⟨b,0,none⟩,cs)
abbrev pt(b:Nat):Value:=.pointer (some ⟨b,0,none⟩)
abbrev fn(f:FuncId)(cap:List Value):Value:=.func (.func f) #[] ⟨cap⟩
abbrev iv(n:Int):Value:=.int .i64 n
theorem Yz{α:Type}{l l' xs:List α}{is:List Nat}(h:nZ l is xs l':=by(repeat (first|exact nZ.nil|(apply nZ.cons;(focus ((repeat (first|exact Bk.head|apply Bk.tail));done));simp only[sP])));first|done|fail):nZ l is xs l':=h
theorem evD{S:List (Nat×Value)}{xs:List Operand}{vs:List Value}(h:rP S xs=vs:=by(repeat (first|exact dF _|(apply cL;focus ((conv=>{lhs;whnf});try exact rfl))));first|done|fail):rP S xs=vs:=h
section
variable{w0 w:World}{M:List Nat}{H H':List (Nat×Obj)}{A F:Fr}{O O':List Ow}
theorem SF.rI(h:SF w0 M H A F O w)(hH:H'.Sublist H:=by repeat (first|exact List.Sublist.refl _|apply List.Sublist.cons))(hO:O'.Sublist O:=by repeat (first|exact List.Sublist.refl _|apply List.Sublist.cons)):SF w0 M H' [] F O' w:=h.ret hH aX.all hO
theorem SF.rN(h:SF w0 M H A (F++[]) O w)(hH:H'.Sublist H:=by repeat (first|exact List.Sublist.refl _|apply List.Sublist.cons))(hO:O'.Sublist O:=by repeat (first|exact List.Sublist.refl _|apply List.Sublist.cons)):SF w0 M H' [] F O' w:=h.ret hH (aX.iV λ f hf=>by simpa using hf) hO
variable{P:Program}{S:List (Nat×Value)}{d:Nat}{ty t:TypeId}{pos:String}{af:Array Edge}{gd:Option (Nat×Bool)}{x:Operand}{v:Value}{vs:List Value}{B:Fr}
theorem qT(b:Nat)(cs:List Value)(q:Nat)(hB:∀x∈B,x∈A)(hq:cs[q]?=some v)(hx:ev S x=.pointer (some ⟨b,q,none⟩):=by exact rfl)(ht:one P t=true:=by first|exact Lw rfl|kernel_rfl)(hm:bx b cs∈B:=by simp):aM P S (SF w0 M H A F O) ⟨some d,.load t x,ty,pos,af,gd⟩ v :=
 mv (a:=some ⟨b,0,none⟩) (q:=q) (hx.trans (by simp[cO,eF])) ht (.bK (uC.iM (hB _ hm))) hq
theorem ij(b:Nat)(cs:List Value)(q k:Nat)(hB:∀x∈B,x∈A)(hv:(cs.drop q).take k=vs)(hl:vs.length=k)(hx:ev S x=.pointer (some ⟨b,q,none⟩):=by exact rfl)(ht:jR P t k=true:=by exact eT)(hm:bx b cs∈B:=by simp):aM P S (SF w0 M H A F O) ⟨some d,.load t x,ty,pos,af,gd⟩ (.agg ⟨vs⟩) :=
 Ot (a:=some ⟨b,0,none⟩) (q:=q) (hx.trans (by simp[cO,eF])) ht (.bK (uC.iM (hB _ hm))) hv hl
end
end
end Go.Ct
namespace Go.Proofs.YtbajmaoegmbfgaaGreat
open Go.Proofs.Tryz (prog)
open Go Go.RowKit Go.Ct
section
abbrev wA(b:Nat)(f:FuncId)(cap arg:List Value)(B:Fr)(s:Mm)(T:Tr):Prop:=zT b f cap arg B s λ c' s' B'=>kU b T s c' s' B'
theorem zT.mr{b:Nat}{f:FuncId}{cap arg:List Value}{B B2:Fr}{s:Mm}{T:Tr}(h:wA b f cap arg B s T)(hb:∀x∈B,x∈B2):wA b f cap arg B2 s T:=h.more hb λ _ _ _ _ hC h=>h.more hC
section
variable{S:List (Nat×Value)}{w0 w:World}{M:List Nat}{H H':List (Nat×Obj)}{A A0 F B:Fr}{O O':List Ow}{ty:TypeId}{pos:String}{af:Array Edge}{gd:Option (Nat×Bool)}{b:Nat}{a:AS}{R:Cd->Mm->Fr->Prop}{is js:List Nat}{f:FuncId}{xs:List Operand}{at_:Array TypeId}{vs cap:List Value}{dst:Option Nat}{x:Operand}{H1:Cd×Fr×AS->List (Nat×Obj)}{F1:Cd×Fr×AS->Fr}{O1:Cd×Fr×AS->List Ow}
theorem I3(hc:∀w,SF w (Ks [(b,eV a)] (fJ a)) [(b,eV a)] A0 [] (fJ a) w->Calls prog f ⟨vs⟩ w (Ei b R a B (Ks [(b,eV a)] (fJ a)) w))
  (ha:rP S xs=vs:=by exact evD) (hp:plain prog f=true:=by kernel_rfl) (hH:nZ H is [(b,eV a)] H':=by exact Yz) (hO:nZ O js (fJ a) O':=by exact Yz) (hA:bH A F O' A0:=by exact bH.of (λ _ h=>Or.inr (Or.inl h)))
  (hl1:is.length=1:=by exact rfl) (hl2:js.length=2:=by exact rfl)
  (hH1:∀y,jX is [(b,eV y.2.2)] H'=H1 y:=by intro x;simp only[jX,tR];exact rfl) (hF1:∀y,y.2.1++F=F1 y:=by intro x;exact rfl) (hO1:∀y,jX js (fJ y.2.2) O'=O1 y:=by intro x;simp only[jX,tR,mW];exact rfl) :
  bG prog S (SF w0 M H A F O) ⟨dst,.call {callee:=.value (.func f),args:=⟨xs⟩,argTypes:=at_},ty,pos,af,gd⟩ (Cd×Fr×AS) (λ y=>.agg ⟨y.1.cells⟩) (λ y w=>(R y.1 y.2.2.mm (y.2.1++B)/\y.2.2.Ok/\a.jM y.2.2 y.2.1)/\SF w0 M (H1 y) A (F1 y) (O1 y) w) :=
 cM (hs:=[(b,eV a)]) (os:=fJ a) (hs':=λ y:Cd×Fr×AS=>[(b,eV y.2.2)]) (os':=λ y=>fJ y.2.2) (Fc:=λ y=>y.2.1) ha hp hc hH hO hA (λ _=>hl1) (λ _=>hl2) hH1 hF1 hO1
theorem S2(hp:plain prog f=true)(hk:zT b f cap vs B a.mm R)(ok:a.Ok)(hm:a.mm.Small)(hA0:∀f∈aN a.L,f∈A)(hB:∀x∈B,x∈A)(hx:ev S x=.func (.func f) #[] ⟨cap⟩:=by exact rfl)
  (ha:rP S xs=vs:=by exact evD) (hH:nZ H is [(b,eV a)] H':=by exact Yz) (hO:nZ O js (fJ a) O':=by exact Yz)
  (hl1:is.length=1:=by exact rfl) (hl2:js.length=2:=by exact rfl)
  (hH1:∀y,jX is [(b,eV y.2.2)] H'=H1 y:=by intro x;simp only[jX,tR];exact rfl) (hF1:∀y,y.2.1++F=F1 y:=by intro x;exact rfl) (hO1:∀y,jX js (fJ y.2.2) O'=O1 y:=by intro x;simp only[jX,tR,mW];exact rfl) :
  bG prog S (SF w0 M H A F O) ⟨dst,.call {callee:=.value x,args:=⟨xs⟩,argTypes:=at_},ty,pos,af,gd⟩ (Cd×Fr×AS) (λ y=>.agg ⟨y.1.cells⟩) (λ y w=>(R y.1 y.2.2.mm (y.2.1++B)/\y.2.2.Ok/\a.jM y.2.2 y.2.1)/\SF w0 M (H1 y) A (F1 y) (O1 y) w) :=
 cMf (V:=λ y:Cd×Fr×AS=>.agg ⟨y.1.cells⟩) (hs:=[(b,eV a)]) (os:=fJ a) (hs':=λ y:Cd×Fr×AS=>[(b,eV y.2.2)]) (os':=λ y=>fJ y.2.2) (Fc:=λ y=>y.2.1) (A0:=A) hx ha hp (λ w hw=>hk a _ A w rfl ok hm hA0 hB hw) hH hO (bH.of λ _ h=>.inr (.inl h)) (λ _=>hl1) (λ _=>hl2) hH1 hF1 hO1
end
end
end Go.Proofs.YtbajmaoegmbfgaaGreat
