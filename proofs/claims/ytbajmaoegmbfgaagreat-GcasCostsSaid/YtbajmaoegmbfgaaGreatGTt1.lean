/- Codes with a store: what they mean as trees. -/
import Derived.Test.YtbajmaoegmbfgaaGreatGArN
import Derived.Test.YtbajmaoegmbfgaaGreatGTr3
import Derived.Test.YtbajmaoegmbfgaaGreatGAr4
import Derived.Test.YtbajmaoegmbfgaaGreatGRn1

set_option linter.unusedSimpArgs false
set_option linter.unusedVariables false
namespace Go.Ct
section
open Go Go.RowKit
structure AS where
 L:List aP
 cs:List Int
 gen:Int
 acc:Int
 pn:Option Addr
 cn:Nat
 pc:Option Addr
 cc:Nat
def AS.mm(a:AS):Mm:=⟨(bS a.L).map aP.c,a.cs,a.gen⟩
structure X8(s:Mm):Prop where
 nd:∀v∈s.nodes,lQ s.nodes.length s.cs.length v
 cs:∀v∈s.cs,v<=s.nodes.length
 two:2<=s.nodes.length
structure AS.Ok(a:AS):Prop where
 fit:Fits a.L
 mo:X8 a.mm
structure Mm.Le(s s1:Mm):Prop where
 nodes:∃N,s1.nodes=s.nodes++N
 cl:s.cs.length<=s1.cs.length
def Mm.Small(s:Mm):Prop:=s.nodes.length<=137438953472/\s.cs.length<=137438953472
structure AS.iP(a a':AS)(F:Fr):Prop where
 le:a.mm.Le a'.mm
 fam:∀f∈aM a'.L,f.2=[]∨f∈aM a.L∨f∈F
theorem Mm.Le.refl(s:Mm):s.Le s:=⟨⟨[],by simp⟩,Nat.le_refl _⟩
theorem Mm.Le.trans{s t u:Mm}(h:s.Le t)(h2:t.Le u):s.Le u:=by
 obtain⟨⟨N,e⟩,c⟩:=h
 obtain⟨⟨M,e2⟩,c2⟩:=h2
 exact⟨⟨N++M,by rw[e2,e,List.append_assoc]⟩,Nat.le_trans c c2⟩
theorem Mm.Le.len{s t:Mm}(h:s.Le t):s.nodes.length<=t.nodes.length:=by obtain⟨N,e⟩:=h.nodes;rw[e,List.length_append];omega
theorem Mm.Le.nd{s t:Mm}(h:s.Le t){r:Int}(hr:r<=s.nodes.length):bH t.nodes r=bH s.nodes r:=by obtain⟨N,e⟩:=h.nodes;rw[e];exact nQ hr
theorem AS.iP.refl(a:AS):a.iP a []:=⟨Mm.Le.refl _,λ f hf=>.inr (.inl hf)⟩
theorem AS.iP.more{a a':AS}{F F':Fr}(h:a.iP a' F)(hs:∀f∈F,f∈F'):a.iP a' F':=⟨h.le,λ f hf=>(h.fam f hf).imp_right λ h=>h.imp_right λ h=>hs f h⟩
theorem AS.iP.trans{a b c:AS}{F G:Fr}(h:a.iP b F)(h2:b.iP c G):a.iP c (G++F):=⟨h.le.trans h2.le,λ f hf=>by
 rcases h2.fam f hf with h1|h1|h1
 ·exact .inl h1
 ·rcases h.fam f h1 with h1|h1|h1
  ·exact .inl h1
  ·exact .inr (.inl h1)
  ·exact .inr (.inr (List.mem_append_right _ h1))
 ·exact .inr (.inr (List.mem_append_left _ h1))⟩
theorem X8.at{s:Mm}(h:X8 s)(r:Int):lQ s.nodes.length s.cs.length (bH s.nodes r):=by
 unfold bH
 split
 ·refine h.nd _ ?_
  rw[jC,List.getElem?_eq_getElem (by omega)]
  exact List.getElem_mem _
 ·exact Qi _ _
theorem X8.cell{s:Mm}(h:X8 s)(c:Int):bD s.cs c<=s.nodes.length:=by
 unfold bD
 split
 ·exact mH h.cs _
 ·exact bI _
theorem X8.jP{s:Mm}(h:X8 s){c o n:Int}(hn:n<=s.nodes.length):X8 ⟨s.nodes,dD s.cs c o n,s.gen⟩:=by
 refine⟨λ v hv=>by simp only[gE];exact h.nd v hv,λ v hv=>?_,h.two⟩
 simp only[dD] at hv
 split at hv
 ·rcases List.mem_or_eq_of_mem_set hv with hv|rfl
  ·exact h.cs v hv
  ·exact hn
 ·exact h.cs v hv
def dY:Tr->Mm->Tr×Mm
 | .alloc n i k,s=>dY (k ((s.nodes.length+1:Nat):Int)) (s.push n i)
 | .cell i k,s=>dY (k ((s.cs.length+1:Nat):Int)) ⟨s.nodes,s.cs++[i],s.gen⟩
 | .gen k,s=>dY (k (s.gen+1)) ⟨s.nodes,s.cs,s.gen+1⟩
 | .node r k,s=>dY (k (bH s.nodes r)) s
 | t,s=>(t,s)
def nxT:Tr->Mm->Tr×Mm
 | .load c k,s=>(k (bD s.cs c),s)
 | .jP c o n k,s=>(k (xQ s.cs c o),⟨s.nodes,dD s.cs c o n,s.gen⟩)
 | t,s=>(t,s)
def xK(p:Tr×Mm):Tr×Mm:=dY (nxT p.1 p.2).1 (nxT p.1 p.2).2
def Tr.live:Tr->Bool
 | .done _=>false
 | _=>true
def iM(p:Tr×Mm):Nat->Tr×Mm
 | 0=>p
 | k+1=>xK (iM p k)
theorem Eh(p:Tr×Mm)(j:Nat):∀k,iM p (j+k)=iM (iM p j) k
 | 0=>rfl
 | k+1=>by show xK (iM p (j+k))=_;rw[Eh p j k];rfl
end
end Go.Ct
namespace Go.Proofs.YtbajmaoegmbfgaaGreat
section
open Go Go.RowKit Go.Ct
abbrev fI(a:AS):Obj:=aO a.L a.cs a.gen a.acc a.pn a.cn a.pc a.cc
abbrev fQ(a:AS):List Ow:=mW a.L a.cs a.pn a.cn a.pc a.cc
def Dj(b:Nat)(R:Cd->Mm->Fr->Prop)(a:AS)(B:Fr)(D:List Nat)(w:World):Ending->World->Prop:=λ e w'=>∃y:Cd×Fr×AS,e=.returned (.agg ⟨y.1.cells⟩)/\(R y.1 y.2.2.mm (y.2.1++B)/\y.2.2.Ok/\a.iP y.2.2 y.2.1)/\SF w D [(b,fI y.2.2)] [] y.2.1 (fQ y.2.2) w'
def zC(b:Nat)(f:FuncId)(cap:List Value)(arg:List Value)(B:Fr)(s:Mm)(R:Cd->Mm->Fr->Prop):Prop :=
 ∀(a:AS) (D:List Nat) (A:Fr) (w:World),a.mm=s->a.Ok->s.Small->(∀f∈aM a.L,f∈A)->(∀f∈B,f∈A)->SF w D [(b,fI a)] A [] (fQ a) w->Calls Tryz.prog f ⟨arg++cap⟩ w (Dj b R a B D w)
def mA(b:Nat):Tr->Mm->Cd->Mm->Fr->Prop
 | .done r,s,c,s2,_=>s2=s/\c=sN r
 | .load x k,s,c,s2,B=>s2=s/\x<=9223372036854775807/\∃f cap,c=sU x f cap/\plain Tryz.prog f=true/\∀(v:Int) (s1:Mm),s.Le s1->v<=s1.nodes.length->zC b f cap [.int .i64 v] B s1 λ c' s' B'=>mA b (k v) s1 c' s' B'
 | .jP x o n k,s,c,s2,B=>s2=s/\x<=9223372036854775807/\n<=s.nodes.length/\∃f cap,c=yF x o n f cap/\plain Tryz.prog f=true/\∀(v:Bool) (s1:Mm),s.Le s1->zC b f cap [.bool v] B s1 λ c' s' B'=>mA b (k v) s1 c' s' B'
 | .alloc n i k,s,c,s2,B=>mA b (k ((s.nodes.length+1:Nat):Int)) (s.push n i) c s2 B
 | .cell i k,s,c,s2,B=>mA b (k ((s.cs.length+1:Nat):Int)) ⟨s.nodes,s.cs++[i],s.gen⟩ c s2 B
 | .gen k,s,c,s2,B=>mA b (k (s.gen+1)) ⟨s.nodes,s.cs,s.gen+1⟩ c s2 B
 | .node r k,s,c,s2,B=>r<=s.nodes.length/\mA b (k (bH s.nodes r)) s c s2 B
 | .stuck,_,_,_,_=>True
def D6(b:Nat)(K:Int->Tr)(s:Mm)(f:FuncId)(cap:List Value)(B:Fr):Prop:=plain Tryz.prog f=true/\∀(v:Int) (s1:Mm),s.Le s1->v<=s1.nodes.length->zC b f cap [.int .i64 v] B s1 λ c' s' B'=>mA b (K v) s1 c' s' B'
def Ww(b:Nat)(K:Bool->Tr)(s:Mm)(f:FuncId)(cap:List Value)(B:Fr):Prop:=plain Tryz.prog f=true/\∀(v:Bool) (s1:Mm),s.Le s1->zC b f cap [.bool v] B s1 λ c' s' B'=>mA b (K v) s1 c' s' B'
def Th0(b:Nat)(t:Tr)(s:Mm)(f:FuncId)(cap:List Value)(B:Fr):Prop:=plain Tryz.prog f=true/\∀s1:Mm,s.Le s1->zC b f cap [] B s1 λ c' s' B'=>mA b t s1 c' s' B'
section
variable{b:Nat}{f:FuncId}{cap arg:List Value}{B B2:Fr}{s s1 s2:Mm}{t:Tr}{c:Cd}
theorem zC.more{R R2:Cd->Mm->Fr->Prop}(h:zC b f cap arg B s R)(hb:∀x∈B,x∈B2)(hR:∀c m C C2,(∀x∈C,x∈C2)->R c m C->R2 c m C2):zC b f cap arg B2 s R2:=λ a D A w e1 ok hs h1 h2 hw =>
 (h a D A w e1 ok hs h1 (λ x hx=>h2 x (hb x hx)) hw).mono λ e w' ⟨y,he,⟨hr,h3⟩,hs⟩=>⟨y,he,⟨hR _ _ _ _ (λ x hx=>by
  rcases List.mem_append.1 hx with h1|h1
  ·exact List.mem_append_left _ h1
  ·exact List.mem_append_right _ (hb x h1)) hr,h3⟩,hs⟩
theorem mA.more:∀{t:Tr} {s s2:Mm} {c:Cd} {B B2:Fr},mA b t s c s2 B->(∀x∈B,x∈B2)->mA b t s c s2 B2
 | .done _,_,_,_,_,_,h,_=>h
 | .load _ k,_,_,_,_,_,⟨h0,h1,f,cap,h2,h3,h4⟩,hb=>⟨h0,h1,f,cap,h2,h3,λ v s1 l hv=>(h4 v s1 l hv).more hb λ _ _ _ _ hC h=>mA.more (t:=k v) h hC⟩
 | .jP _ _ _ k,_,_,_,_,_,⟨h0,h1,hn,f,cap,h2,h3,h4⟩,hb=>⟨h0,h1,hn,f,cap,h2,h3,λ v s1 l=>(h4 v s1 l).more hb λ _ _ _ _ hC h=>mA.more (t:=k v) h hC⟩
 | .alloc n i k,s,_,_,_,_,h,hb=>mA.more (t:=k ((s.nodes.length+1:Nat):Int)) h hb
 | .cell i k,s,_,_,_,_,h,hb=>mA.more (t:=k ((s.cs.length+1:Nat):Int)) h hb
 | .gen k,s,_,_,_,_,h,hb=>mA.more (t:=k (s.gen+1)) h hb
 | .node r k,s,_,_,_,_,h,hb=>⟨h.1,mA.more (t:=k (bH s.nodes r)) h.2 hb⟩
 | .stuck,_,_,_,_,_,_,_=>trivial
theorem D6.more{K:Int->Tr}(h:D6 b K s f cap B)(hb:∀x∈B,x∈B2):D6 b K s f cap B2:=⟨h.1,λ v s1 l hv=>(h.2 v s1 l hv).more hb λ _ _ _ _ hC h=>mA.more h hC⟩
theorem Ww.more{K:Bool->Tr}(h:Ww b K s f cap B)(hb:∀x∈B,x∈B2):Ww b K s f cap B2:=⟨h.1,λ v s1 l=>(h.2 v s1 l).more hb λ _ _ _ _ hC h=>mA.more h hC⟩
theorem D6.le{K:Int->Tr}(h:D6 b K s f cap B)(l:s.Le s1):D6 b K s1 f cap B:=⟨h.1,λ v s2 l2 hv=>h.2 v s2 (l.trans l2) hv⟩
theorem Ww.le{K:Bool->Tr}(h:Ww b K s f cap B)(l:s.Le s1):Ww b K s1 f cap B:=⟨h.1,λ v s2 l2=>h.2 v s2 (l.trans l2)⟩
theorem mA.kind(h:mA b t s c s2 B)(ha:eK t=true):(c.a.k=0↔t.live=false)/\(∀r,t=.done r->c.r=r)/\(∀x,t.acc=some x->c.a=x):=by
 cases t with
 | done r=>rw[h.2];exact⟨⟨λ _=>rfl,λ _=>rfl⟩,(λ r e=>by cases e;rfl),(λ x e=>nomatch e)⟩
 | load x k =>
  obtain⟨_,_,f,cap,e,_⟩:=h
  rw[e]
  exact⟨⟨λ h=>absurd h (show(1:Int)≠0 by decide),(λ h=>nomatch h)⟩,(λ r e=>nomatch e),λ x e=>by cases e;rfl⟩
 | jP x o n k =>
  obtain⟨_,_,_,f,cap,e,_⟩:=h
  rw[e]
  exact⟨⟨λ h=>absurd h (show(2:Int)≠0 by decide),(λ h=>nomatch h)⟩,(λ r e=>nomatch e),λ x e=>by cases e;rfl⟩
 | alloc n i k=>cases ha
 | cell i k=>cases ha
 | gen k=>cases ha
 | node r k=>cases ha
 | stuck=>cases ha
theorem mA.dY:∀{t:Tr} {s s2:Mm} {c:Cd} {n m:Nat},bT t n m->mA b t s c s2 B->(dY t s).2=s2/\eK (dY t s).1=true/\mA b (dY t s).1 s2 c s2 B
 | .done _,_,_,_,_,_,_,h=>by obtain⟨rfl,h2⟩:=h;exact⟨rfl,rfl,rfl,h2⟩
 | .load _ k,_,_,_,_,_,_,h=>by obtain⟨rfl,h2⟩:=h;exact⟨rfl,rfl,rfl,h2⟩
 | .jP _ _ _ k,_,_,_,_,_,_,h=>by obtain⟨rfl,h2⟩:=h;exact⟨rfl,rfl,rfl,h2⟩
 | .alloc n i k,s,_,_,_,0,ht,h=>ht.elim
 | .alloc n i k,s,_,_,_,_+1,ht,h=>mA.dY (t:=k ((s.nodes.length+1:Nat):Int)) (ht _) h
 | .cell i k,s,_,_,_,0,ht,h=>ht.elim
 | .cell i k,s,_,_,_,_+1,ht,h=>mA.dY (t:=k ((s.cs.length+1:Nat):Int)) (ht _) h
 | .gen k,s,_,_,_,0,ht,h=>ht.elim
 | .gen k,s,_,_,_,_+1,ht,h=>mA.dY (t:=k (s.gen+1)) (ht _) h
 | .node r k,s,_,_,_,_,ht,h=>mA.dY (t:=k (bH s.nodes r)) (ht _) h.2
 | .stuck,_,_,_,_,_,ht,_=>ht.elim
end
section
variable{S:List (Nat×Value)}{w0 w:World}{M:List Nat}{H:List (Nat×Obj)}{A F:Fr}{O:List Ow}{ty:TypeId}{pos:String}{af:Array Edge}{gd:Option (Nat×Bool)}{X:Type}{V:X->Value}
theorem cMf{φ:X->Prop}{hs H':List (Nat×Obj)}{os O':List Ow}{hs' H1:X->List (Nat×Obj)}{os' O1:X->List Ow}{Fc F1:X->Fr}{A0:Fr}{is js:List Nat}{f:FuncId}{cap:List Value}{xs:List Operand}{at_:Array TypeId}{vs:List Value}{dst:Option Nat}{x:Operand}
  (hx:ev S x=.func (.func f) #[] ⟨cap⟩:=by exact rfl) (ha:qX S xs=vs:=by(repeat (first|exact dC _|(apply cH;focus ((conv=>{lhs;whnf});try exact rfl))));first|done|fail) (hp:plain Tryz.prog f=true)
  (hc:∀w,SF w (Ks hs os) hs A0 [] os w->Calls Tryz.prog f ⟨vs++cap⟩ w λ e w'=>∃x,e=.returned (V x)/\φ x/\SF w (Ks hs os) (hs' x) [] (Fc x) (os' x) w')
  (hH:nK H is hs H':=by(repeat (first|exact nK.nil|(apply nK.cons;(focus ((repeat (first|exact A3.head|apply A3.tail));done));simp only[rH])));first|done|fail)
  (hO:nK O js os O':=by(repeat (first|exact nK.nil|(apply nK.cons;(focus ((repeat (first|exact A3.head|apply A3.tail));done));simp only[rH])));first|done|fail)
  (hA:bE A F O' A0:=by exact bE.of (λ _ h=>Or.inr (Or.inl h)))
  (hl1:∀x,is.length=(hs' x).length:=by intro x;exact rfl) (hl2:∀x,js.length=(os' x).length:=by intro x;exact rfl)
  (hH1:∀x,jO is (hs' x) H'=H1 x:=by intro x;first|(simp only[jO,sR];exact rfl)|exact rfl) (hF1:∀x,Fc x++F=F1 x:=by intro x;first|(simp only[List.nil_append,List.cons_append];exact rfl)|exact rfl) (hO1:∀x,jO js (os' x) O'=O1 x:=by intro x;simp only[jO,sR,mW];exact rfl) :
  bC Tryz.prog S (SF w0 M H A F O) ⟨dst,.call {callee:=.value x,args:=⟨xs⟩,argTypes:=at_},ty,pos,af,gd⟩ X V (λ x w=>φ x/\SF w0 M (H1 x) A (F1 x) (O1 x) w) :=
 iJ (lz hx hp ha) λ w hw=>(hc w (hw.rY hH hO hA)).mono λ _ _ ⟨x,he,hx,hs⟩=>⟨x,he,hx,by
  have:=hw.Ax (hs':=hs' x) (Hc:=[]) (os':=os' x) (Oc:=[]) hH hO (by simpa using hs) (hl1 x) (hl2 x)
  rw[<- hH1 x,<- hF1 x,<- hO1 x]
  simpa using this⟩
end
end

/- Tasks: Done, Next, Result, Steps. -/
end Go.Proofs.YtbajmaoegmbfgaaGreat
namespace Go.Ct
section
open Go Go.RowKit
theorem SF.same{w w':World}{b:Nat}{o:Obj}(h:SF w [b] [(b,o)] [] [] [] w')(hb:w.heap[b]?=some o):St w [] [] w' :=
 ⟨h.st.os,h.st.tape,h.st.output,h.st.size,λ k hk _=>by
  by_cases e:k=b
  ·subst e;rw[h.st.has (k,o) (List.mem_singleton.2 rfl),hb]
  ·exact h.st.kB k hk (by simpa using e),λ _ h=>(List.not_mem_nil h).elim,λ _ h=>(List.not_mem_nil h).elim,List.nodup_nil⟩
theorem SF.su{w:World}{b:Nat}{o:Obj}(hb:w.heap[b]?=some o):SF w [b] [(b,o)] [] [] [] w :=
 ⟨⟨rfl,rfl,rfl,Nat.le_refl _,λ _ _ _=>rfl,λ p hp=>by rw[List.mem_singleton.1 hp];exact hb,λ p hp=>by rw[List.mem_singleton.1 hp];exact .inl (List.mem_singleton.2 rfl),by simp⟩,λ _ h=>(List.not_mem_nil h).elim,λ _ h=>(List.not_mem_nil h).elim,λ _ h=>(List.not_mem_nil h).elim,by simp[Ks]⟩
end
end Go.Ct
namespace Go.Proofs.YtbajmaoegmbfgaaGreat
section
open Go Go.RowKit Go.Ct
abbrev tkC(b:Nat)(c:Cd)(n:Nat)(z:Bool):List Value:=[.iface 42 (.pointer (some ⟨b,0,none⟩)),.int .i64 c.a.k,.int .i64 c.a.c,.int .i64 c.a.o,.int .i64 c.a.n,fnV c.f,fnV c.g,.int .i64 c.r.err,.bool c.r.found,.int .u64 c.r.val,.string c.r.key,.int .i64 c.r.gJ,.int .i64 c.r.ref,.int .i64 c.r.root,.bool c.r.ro,.int .i64 ((n:Nat):Int),.bool z]
abbrev tO(b:Nat)(c:Cd)(n:Nat):Obj:=.cells ⟨tkC b c n false⟩ 141 (0,0)
section
variable{D:List Nat}{A B:Fr}{L:List aP}{cs:List Int}{gen acc:Int}{pn pc:Option Addr}{cn cc b bt n:Nat}{w:World}{c:Cd}
theorem zL(h:w.heap[bt]?=some (tO b c n)):Calls Tryz.prog 33 #[.pointer (some ⟨bt,0,none⟩)] w λ e w'=>e=.returned (.bool (c.a.k==0))/\St w [] [] w':=by
 refine enter Tryz.func33 Tryz.ntmps33 rfl rfl (SF.su h) ?_
 simp only[cD]
 refine cP ?_;refine H7 ?_;refine aF ?_;refine J3 ?_;refine Qs ?_
 refine aQ Tryz.results33 (λ w hw=>?_)
 exact⟨rfl,hw.aV.same h⟩
theorem Sw(h:w.heap[bt]?=some (tO b c n)):Calls Tryz.prog 34 #[.pointer (some ⟨bt,0,none⟩)] w λ e w'=>e=.returned (.agg ⟨(if c.a.k=0 then c.r else Rs.zero).cells⟩)/\St w [] [] w':=by
 refine enter Tryz.func34 Tryz.ntmps34 rfl rfl (SF.su h) ?_
 simp only[cD]
 refine J0 ?_;refine aJ (λ x2=>?_);refine aH ?_;refine kX ?_;refine aN (cV (hc:=λ w1 hw=>zL (hw.st.at cX))) (λ x4=>?_);refine oU ?_
 refine aZ (λ c5=>?_) (λ c5=>?_)
 ·refine J0 ?_;refine vL ?_
  refine aY Tryz.results34 (λ w hw=>?_)
  refine⟨?_,hw.aV.same h⟩
  rw[if_neg (by simpa using c5)]
  rfl
 ·refine aX ?_;refine H7 ?_;refine aF ?_;refine aC (aR (k:=8) (vs:=c.r.cells) rf cX eP rfl rfl) rfl ?_;refine J5 ?_
  refine aY Tryz.results34 (λ w hw=>?_)
  refine⟨?_,hw.aV.same h⟩
  rw[if_pos (by simpa using c5)]
  rfl
end
end

/- Tasks on an arena: how they begin, how they go on. -/
end Go.Proofs.YtbajmaoegmbfgaaGreat
namespace Go.Ct
section
open Go Go.RowKit
abbrev AS.V6(a:AS)(cs:List Int):AS:={a with cs:=cs,acc:=up a.acc}
theorem AS.Ok.V6{a:AS}(ok:a.Ok){x o n:Int}(hn:n<=a.mm.nodes.length):(a.V6 (dD a.cs x o n)).Ok:=⟨ok.fit,ok.mo.jP hn⟩
end
end Go.Ct
namespace Go.Proofs.YtbajmaoegmbfgaaGreat
section
open Go Go.RowKit Go.Ct
section
variable{D:List Nat}{A B:Fr}{a:AS}{b bt n:Nat}{w:World}{c:Cd}{t:Tr}{f:FuncId}{cap:List Value}
theorem Ys(h:Th0 b t a.mm f cap B)(ok:a.Ok)(hm:a.mm.Small)(hA:∀f∈aM a.L,f∈A)(hB:∀x∈B,x∈A)(hs:SF w D [(b,fI a)] A [] (fQ a) w) :
  Calls Tryz.prog 118 #[.func (.func f) #[] ⟨cap⟩] w (Dj b (λ c' s' B'=>mA b t a.mm c' s' B') a B D w):=by
 obtain⟨hp,h⟩:=h
 refine Rt Tryz.func118 Tryz.ntmps118 rfl rfl hs ?_
 simp only[cD]
 refine fU ?_;refine dM ?_;refine vI (λ x2=>?_);refine iE ?_;refine fU ?_;refine dM ?_;(refine gL (dB (by(repeat (first|exact dC _|(apply cH;focus ((conv=>{lhs;whnf});try exact rfl))));done)) rfl ?_);refine F4 rfl ?_;refine iE ?_;refine fU ?_;refine fU ?_;refine dM ?_;refine oW ?_;refine gL (Ld rf rf (aA9 _ _ _)) rfl ?_;refine iE ?_
 refine Ji (λ c5=>?_) (λ c5=>?_)
 ·exact nv c5
 ·revert c5;(skip);intro c5
  refine Ei ?_;refine fU ?_;refine dM ?_;refine oW ?_;refine As (cMf (V:=λ y:Cd×Fr×AS=>.agg ⟨y.1.cells⟩) (hs:=[(b,fI a)]) (os:=fQ a) (hs':=λ y=>[(b,fI y.2.2)]) (os':=λ y=>fQ y.2.2) (Fc:=λ y=>y.2.1) (A0:=A) (f:=f) (cap:=cap) (vs:=[]) (hp:=hp) (hc:=λ w1 hw=>h a.mm (Mm.Le.refl _) a _ A w1 rfl ok hm hA hB hw)) (λ x8 h8=>?_);refine Lg (jE λ _=>bO rf cX rf (dK _) eP rf kL) (λ _=>?_);refine iE ?_
  refine Ej (Rg _) (by kernel_rfl) Tryz.results118 (.cell rf cX eP .nil) (λ w hw=>?_)
  exact⟨x8,rfl,h8,hw.ret (by repeat (first|exact List.Sublist.refl _|apply List.Sublist.cons)) (aW.iI λ f hf=>by simpa using hf) (List.Sublist.refl _)⟩
theorem Fk{x:Int}{k:Int->Tr}(hr:mA b (.load x k) a.mm c a.mm B)(ok:a.Ok)(hm:a.mm.Small)(hA:∀f∈aM a.L,f∈A)(hB:∀x∈B,x∈A)(hs:SF w D [(b,fI a)] A [] (fQ a) w) :
  Calls Tryz.prog 86 #[.iface 42 (.pointer (some ⟨b,0,none⟩)),.agg ⟨c.cells⟩] w (Dj b (λ c' s' B'=>mA b (k (bD a.cs x)) a.mm c' s' B') a B D w):=by
 obtain⟨_,hx,f,cap,rfl,hp,hk⟩:=hr
 have hl:a.cs.length<=274877906944:=by have:=hm.2;show a.mm.cs.length<=_;omega
 have hv:bD a.cs x<=a.mm.nodes.length:=ok.mo.cell x
 refine Rt Tryz.func86 Tryz.ntmps86 rfl rfl hs ?_
 simp only[cD]
 refine fU ?_;refine dM ?_;refine gj (λ x3=>?_);refine vI (λ x4=>?_);refine iE ?_;refine fU ?_;refine dM ?_;(refine gL (dB (by(repeat (first|exact dC _|(apply cH;focus ((conv=>{lhs;whnf});try exact rfl))));done)) rfl ?_);refine F4 rfl ?_;refine iE ?_;refine fU ?_;refine dM ?_;refine eH ?_;refine gL (aR (k:=4) (vs:=(sU x f cap).a.cells) rf cX eP rfl rfl) rfl ?_;refine vI (λ x5=>?_);refine On (λ _=>?_);refine iE ?_;refine fU ?_;refine fU ?_;refine dM ?_;refine eH ?_;refine nM ?_;refine Yi ?_;refine iE ?_
 refine Ji (λ c13=>?_) (λ c13=>?_)
 ·revert c13;(refine cv1 ?_);intro c13
  refine fU ?_;refine dM ?_;refine zG (λ _=>?_);refine iE ?_;refine fU ?_;refine fU ?_;refine dM ?_;refine oW ?_;refine gL (U4 rf rf (C8 _)) rfl ?_;refine iE ?_
  refine Ji (λ c15=>?_) (λ c15=>?_)
  ·revert c15;(skip);intro c15
   refine dM ?_;refine oW ?_;refine eH ?_;refine nM ?_;refine As (cMI (V:=λ _:Unit=>.int .i64 (bD a.cs x)) (os':=λ _=>fQ (a.V6 a.cs)) (hs':=λ _=>[(b,fI (a.V6 a.cs))]) (Fc:=λ _=>[]) (A0:=A) (hm:=λ w=>iq _ _ w) (hc:=λ w hw=>Uh hw x hx hl)) (λ x19 h19=>?_);refine zG (λ _=>?_);refine iE ?_;refine fU ?_;refine fU ?_;refine dM ?_;refine eH ?_;refine nM ?_;refine gL (Ld rf rf (zf _ _ _)) rfl ?_;refine iE ?_
   refine Ji (λ c22=>?_) (λ c22=>?_)
   ·exact nv c22
   ·revert c22;(skip);intro c22
    refine Ei ?_;refine fU ?_;refine dM ?_;refine eH ?_;refine nM ?_;refine oW ?_;refine As (cMf (V:=λ y:Cd×Fr×AS=>.agg ⟨y.1.cells⟩) (hs:=[(b,fI (a.V6 a.cs))]) (os:=fQ (a.V6 a.cs)) (hs':=λ y=>[(b,fI y.2.2)]) (os':=λ y=>fQ y.2.2) (Fc:=λ y=>y.2.1) (A0:=A) (f:=f) (cap:=cap) (vs:=[.int .i64 (bD a.cs x)]) (hp:=hp) (hc:=λ w1 hw=>hk (bD a.cs x) a.mm (Mm.Le.refl _) hv (a.V6 a.cs) _ A w1 rfl ⟨ok.fit,ok.mo⟩ hm hA hB hw)) (λ x27 h27=>?_);refine Lg (jE λ _=>bO rf cX rf (dK _) eP rf kL) (λ _=>?_);refine iE ?_
    refine Ej (yJ _) (by kernel_rfl) Tryz.results86 (.cell rf cX eP .nil) (λ w hw=>?_)
    exact⟨x27,rfl,⟨h27.1,h27.2.1,⟨h27.2.2.le,h27.2.2.fam⟩⟩,hw.ret (by repeat (first|exact List.Sublist.refl _|apply List.Sublist.cons)) (aW.iI λ f hf=>by simpa using hf) (List.Sublist.refl _)⟩
  ·exact nv c15
 ·revert c13;(refine cv2 ?_);intro c13
  exact(c13 rfl).elim
theorem Ik{x o n:Int}{k:Bool->Tr}(hr:mA b (.jP x o n k) a.mm c a.mm B)(ok:a.Ok)(hm:a.mm.Small)(hA:∀f∈aM a.L,f∈A)(hB:∀x∈B,x∈A)(hs:SF w D [(b,fI a)] A [] (fQ a) w) :
  Calls Tryz.prog 86 #[.iface 42 (.pointer (some ⟨b,0,none⟩)),.agg ⟨c.cells⟩] w (Dj b (λ c' s' B'=>mA b (k (xQ a.cs x o)) ⟨a.mm.nodes,dD a.cs x o n,a.gen⟩ c' s' B') a B D w):=by
 obtain⟨_,hx,hn,f,cap,rfl,hp,hk⟩:=hr
 have hl:a.cs.length<=274877906944:=by have:=hm.2;show a.mm.cs.length<=_;omega
 have hle:a.mm.Le ⟨a.mm.nodes,dD a.cs x o n,a.gen⟩:=⟨⟨[],by simp⟩,by show a.cs.length<=(dD a.cs x o n).length;rw[gE];exact Nat.le_refl _⟩
 have hm2:Mm.Small ⟨a.mm.nodes,dD a.cs x o n,a.gen⟩:=⟨hm.1,by show(dD a.cs x o n).length<=_;rw[gE];exact hm.2⟩
 refine Rt Tryz.func86 Tryz.ntmps86 rfl rfl hs ?_
 simp only[cD]
 refine fU ?_;refine dM ?_;refine gj (λ x3=>?_);refine vI (λ x4=>?_);refine iE ?_;refine fU ?_;refine dM ?_;(refine gL (dB (by(repeat (first|exact dC _|(apply cH;focus ((conv=>{lhs;whnf});try exact rfl))));done)) rfl ?_);refine F4 rfl ?_;refine iE ?_;refine fU ?_;refine dM ?_;refine eH ?_;refine gL (aR (k:=4) (vs:=(yF x o n f cap).a.cells) rf cX eP rfl rfl) rfl ?_;refine vI (λ x5=>?_);refine On (λ _=>?_);refine iE ?_;refine fU ?_;refine fU ?_;refine dM ?_;refine eH ?_;refine nM ?_;refine Yi ?_;refine iE ?_
 refine Ji (λ c13=>?_) (λ c13=>?_)
 ·revert c13;(refine cv1 ?_);intro c13
  exact absurd (show(2:Int)=1 from c13) (by decide)
 ·revert c13;(refine cv2 ?_);intro c13
  refine Ei ?_;refine fU ?_;refine dM ?_;refine oW ?_;refine gL (U4 rf rf (C8 _)) rfl ?_;refine oW ?_
  (refine vH ?_;refine oW ?_)
  ((refine vH ?_;refine eH ?_));((refine vH ?_;refine nM ?_));((refine vH ?_;refine eH ?_));((refine vH ?_;refine nM ?_));((refine vH ?_;refine eH ?_));((refine vH ?_;refine nM ?_));((refine vH ?_;refine As (cMI (V:=Value.bool) (os':=λ _=>fQ (a.V6 (dD a.cs x o n))) (hs':=λ _=>[(b,fI (a.V6 (dD a.cs x o n)))]) (Fc:=λ _=>[]) (A0:=A) (hm:=λ w=>oo _ _ _ _ w) (hc:=λ w hw=>ug hw x o n hx hl)) (λ x38 h38=>?_)));refine na ?_;refine zG (λ _=>?_);refine iE ?_;refine fU ?_;refine fU ?_;refine dM ?_;refine eH ?_;refine nM ?_;refine gL (Ld rf rf (aAd _ _ _)) rfl ?_;refine iE ?_
  refine Ji (λ c42=>?_) (λ c42=>?_)
  ·exact nv c42
  ·revert c42;(skip);intro c42
   refine Ei ?_;refine fU ?_;refine dM ?_;refine eH ?_;refine nM ?_;refine oW ?_;refine As (cMf (V:=λ y:Cd×Fr×AS=>.agg ⟨y.1.cells⟩) (hs:=[(b,fI (a.V6 (dD a.cs x o n)))]) (os:=fQ (a.V6 (dD a.cs x o n))) (hs':=λ y=>[(b,fI y.2.2)]) (os':=λ y=>fQ y.2.2) (Fc:=λ y=>y.2.1) (A0:=A) (f:=f) (cap:=cap) (vs:=[.bool x38]) (hp:=hp) (hc:=λ w1 hw=>hk x38 _ hle (a.V6 (dD a.cs x o n)) _ A w1 rfl (ok.V6 hn) hm2 hA hB hw)) (λ x47 h47=>?_);refine Lg (jE λ _=>bO rf cX rf (dK _) eP rf kL) (λ _=>?_);refine iE ?_
   refine Ej (yJ _) (by kernel_rfl) Tryz.results86 (.cell rf cX eP .nil) (λ w hw=>?_)
   exact⟨x47,rfl,⟨zO h38▸h47.1,h47.2.1,⟨hle.trans h47.2.2.le,h47.2.2.fam⟩⟩,hw.ret (by repeat (first|exact List.Sublist.refl _|apply List.Sublist.cons)) (aW.iI λ f hf=>by simpa using hf) (List.Sublist.refl _)⟩
def qF(b:Nat)(p:Tr×Mm)(a:AS)(B:Fr)(y:Cd×Fr×AS):Prop:=(mA b p.1 p.2 y.1 p.2 (y.2.1++B)/\y.2.2.mm=p.2)/\y.2.2.Ok/\a.iP y.2.2 y.2.1
theorem qF.of{t0:Tr}{s0:Mm}{y:Cd×Fr×AS}{i m:Nat}(ht:bT t0 i m)(h:mA b t0 s0 y.1 y.2.2.mm (y.2.1++B)/\y.2.2.Ok/\a.iP y.2.2 y.2.1):qF b (Ct.dY t0 s0) a B y/\eK (Ct.dY t0 s0).1=true:=by
 obtain⟨h1,h2,h3⟩:=mA.dY ht h.1
 exact⟨⟨⟨by rw[h1];exact h3,h1.symm⟩,h.2⟩,h2⟩
theorem Nr{i m:Nat}(ht:bT t (i+1) m)(ha:eK t=true)(hlv:t.live=true)(hr:mA b t a.mm c a.mm B)(ok:a.Ok)(hm:a.mm.Small)(hA:∀f∈aM a.L,f∈A)(hB:∀x∈B,x∈A)(hs:SF w D [(b,fI a)] A [] (fQ a) w) :
  Calls Tryz.prog 86 #[.iface 42 (.pointer (some ⟨b,0,none⟩)),.agg ⟨c.cells⟩] w λ e w'=>∃y:Cd×Fr×AS,e=.returned (.agg ⟨y.1.cells⟩)/\(qF b (xK (t,a.mm)) a B y/\eK (xK (t,a.mm)).1=true)/\SF w D [(b,fI y.2.2)] [] y.2.1 (fQ y.2.2) w':=by
 cases t with
 | done r=>cases hlv
 | load x k=>exact(Fk hr ok hm hA hB hs).mono λ e w' ⟨y,he,h,hw⟩=>⟨y,he,qF.of (ht _) h,hw⟩
 | jP x o n k=>exact(Ik hr ok hm hA hB hs).mono λ e w' ⟨y,he,h,hw⟩=>⟨y,he,qF.of (ht _) h,hw⟩
 | alloc n i k=>cases ha
 | cell i k=>cases ha
 | gen k=>cases ha
 | node r k=>cases ha
 | stuck=>cases ha
theorem Wh{i m:Nat}(ht:bT t (i+1) m)(ha:eK t=true)(hlv:t.live=true)(hr:mA b t a.mm c a.mm B)(ok:a.Ok)(hm:a.mm.Small)(hn:n<1000000000)(hA:∀f∈aM a.L,f∈A)(hB:∀x∈B,x∈A)(hs:SF w D [(bt,tO b c n),(b,fI a)] A [] (fQ a) w) :
  Calls Tryz.prog 37 #[.pointer (some ⟨bt,0,none⟩)] w λ e w'=>∃y:Cd×Fr×AS,e=.returned (.tuple #[])/\(qF b (xK (t,a.mm)) a B y/\eK (xK (t,a.mm)).1=true)/\SF w D [(bt,tO b y.1 (n+1)),(b,fI y.2.2)] [] y.2.1 (fQ y.2.2) w':=by
 have hk:c.a.k≠0:=λ e=>by have:=(hr.kind ha).1.1 e;rw[hlv] at this;cases this
 refine enter Tryz.func37 Tryz.ntmps37 rfl rfl hs ?_
 simp only[cD]
 refine kX ?_;refine aN (cV (hc:=λ w1 hw=>zL (hw.st.at cX))) (λ x3=>?_);refine aA ?_
 (refine dX 4 (λ g4=>?_) (λ g4=>?_)<;>(try (exfalso;omega))<;>((refine aE ?_;refine aA ?_)))
 ((refine aE ?_;refine dA ?_));refine J6 ?_;refine bY ?_;refine aH ?_
 refine aZ (λ c9=>?_) (λ c9=>?_)
 ·exact nv c9
 ·try (exfalso;omega)
  refine aX ?_;refine J13 ?_;refine uS ?_;refine mJ ?_;refine F6 ?_;refine Py ?_;refine aS ?_;refine gM [0,1,2,3,4,5,6,7,8,9,10,11,12] ?_;refine W0 ?_;refine J9 ?_;refine bU (i:=8) (hq:=(aR (k:=14) (vs:=c.cells) rf cX eP rfl rfl)) (h:=?_);refine bB (i:=9) (hq:=(cM (V:=λ y:Cd×Fr×AS=>.agg ⟨y.1.cells⟩) (Fc:=λ y=>y.2.1) (hs:=[(b,fI a)]) (os:=fQ a) (A0:=A) (hs':=λ y=>[(b,fI y.2.2)]) (os':=λ y=>fQ y.2.2) (hc:=λ w hw=>Nr ht ha hlv hr ok hm hA hB hw))) (h:=λ x29 h29=>?_);refine J4 ?_;refine kF (i:=12) (hq:=(jE λ _=>lN (off:=1) (vs:=x29.1.cells) (cs:=tkC b x29.1 (n+1) true) rf cX rf (dK _) eP (Nat.le_of_ble_eq_true rfl) rf kL)) (h:=λ _=>?_);refine eJ ?_;refine Aa ?_;refine Py ?_
  refine Dt Tryz.results37 (λ w hw=>?_)
  exact⟨x29,rfl,h29,hw.ret (List.Sublist.refl _) (aW.iI λ f hf=>by simpa using hf) (List.Sublist.refl _)⟩
theorem a9{i m:Nat}(ht:bT t i m)(h:Th0 b t a.mm f cap B)(ok:a.Ok)(hm:a.mm.Small)(hA:∀f∈aM a.L,f∈A)(hB:∀x∈B,x∈A)(hs:SF w D [(b,fI a)] A [] (fQ a) w) :
  Calls Tryz.prog 73 #[.iface 42 (.pointer (some ⟨b,0,none⟩)),.func (.func f) #[] ⟨cap⟩] w λ e w'=>∃x:Nat×Cd×Fr×AS,e=.returned (.pointer (some ⟨x.1,0,none⟩))/\(qF b (Ct.dY t a.mm) a B x.2/\eK (Ct.dY t a.mm).1=true)/\SF w D [(x.1,tO b x.2.1 0),(b,fI x.2.2.2)] [] x.2.2.1 (fQ x.2.2.2) w':=by
 refine enter Tryz.func73 Tryz.ntmps73 rfl rfl hs ?_
 simp only[cD]
 refine cP ?_;refine J2 ?_;refine bM ?_;refine bK (λ x8=>?_);refine zI ?_;refine aD (cM (V:=λ y:Cd×Fr×AS=>.agg ⟨y.1.cells⟩) (Fc:=λ y=>y.2.1) (hs:=[(b,fI a)]) (os:=fQ a) (A0:=A) (hs':=λ y=>[(b,fI y.2.2)]) (os':=λ y=>fQ y.2.2) (hc:=λ w1 hw=>Ys h ok hm hA hB hw)) (λ x11 h11=>?_);refine Mu ?_;refine cO (jE λ _=>lN (off:=1) (vs:=x11.1.cells) (cs:=tkC b x11.1 0 false) rf cX rf (dK _) eP (Nat.le_of_ble_eq_true rfl) rf kL) (λ _=>?_);refine aH ?_;refine J2 ?_;refine J1 ?_
 refine aQ Tryz.results73 (λ w hw=>?_)
 exact⟨(x8,x11),rfl,qF.of ht h11,hw.ret (List.Sublist.refl _) (aW.iI λ f hf=>by simpa using hf) (List.Sublist.refl _)⟩
end
end

end Go.Proofs.YtbajmaoegmbfgaaGreat
