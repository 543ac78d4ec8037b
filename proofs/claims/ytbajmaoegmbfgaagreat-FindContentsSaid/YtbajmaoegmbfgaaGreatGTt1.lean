/- Merged. -/
import Derived.Test.YtbajmaoegmbfgaaGreatGArN
import Derived.Test.YtbajmaoegmbfgaaGreatGTr3
import Derived.Test.YtbajmaoegmbfgaaGreatGNode2
import Derived.Test.YtbajmaoegmbfgaaGreatGRn1
import Derived.Test.YtbajmaoegmbfgaaGreatGJoin
import Derived.Test.YtbajmaoegmbfgaaGreatGAr8
set_option linter.unusedSimpArgs false
set_option linter.unusedVariables false
namespace Go.Ct
open Go Go.RowKit
section
structure AS where
 L:List aQ
 cs:List Int
 gen:Int
 acc:Int
 pn:Option Addr
 cn:Nat
 pc:Option Addr
 cc:Nat
def AS.mm(a:AS):Mm:=⟨(cI a.L).map aQ.c,a.cs,a.gen⟩
structure ax(s:Mm):Prop where
 nd:∀v∈s.nodes,mX s.nodes.length s.cs.length v
 cs:∀v∈s.cs,v<=s.nodes.length
 two:2<=s.nodes.length
structure AS.Ok(a:AS):Prop where
 fit:Fits a.L
 mo:ax a.mm
structure Mm.Le(s s1:Mm):Prop where
 nodes:∃N,s1.nodes=s.nodes++N
 cl:s.cs.length<=s1.cs.length
def Mm.Small(s:Mm):Prop:=s.nodes.length<=137438953472/\s.cs.length<=137438953472
structure AS.iN(a a':AS)(F:Fr):Prop where
 le:a.mm.Le a'.mm
 fam:∀f∈aN a'.L,f.2=[]∨f∈aN a.L∨f∈F
variable{s t:Mm}{a:AS}{F:Fr}
theorem Mm.Le.refl(s:Mm):s.Le s:=⟨⟨[],by simp⟩,Nat.le_refl _⟩
theorem Mm.Le.trans{u:Mm}(h:s.Le t)(h2:t.Le u):s.Le u:=by obtain⟨⟨N,e⟩,c⟩:=h;obtain⟨⟨M,e2⟩,c2⟩:=h2;exact⟨⟨N++M,by rw[e2,e,List.append_assoc]⟩,Nat.le_trans c c2⟩
theorem Mm.Le.len(h:s.Le t):s.nodes.length<=t.nodes.length:=by obtain⟨N,e⟩:=h.nodes;rw[e,List.length_append];omega
theorem Mm.Le.nd(h:s.Le t){r:Int}(hr:r<=s.nodes.length):bE t.nodes r=bE s.nodes r:=by obtain⟨N,e⟩:=h.nodes;rw[e];exact Jb hr
theorem AS.iN.refl(a:AS):a.iN a []:=⟨Mm.Le.refl _,λ f hf=>.inr (.inl hf)⟩
theorem AS.iN.more{a':AS}{F':Fr}(h:a.iN a' F)(hs:∀f∈F,f∈F'):a.iN a' F':=⟨h.le,λ f hf=>(h.fam f hf).imp_right λ h=>h.imp_right λ h=>hs f h⟩
theorem AS.iN.trans{a b c:AS}{F G:Fr}(h:a.iN b F)(h2:b.iN c G):a.iN c (G++F):=⟨h.le.trans h2.le,λ f hf=>by
 rcases h2.fam f hf with h1|h1|h1;·exact .inl h1
 ·rcases h.fam f h1 with h1|h1|h1;·exact .inl h1
  ·exact .inr (.inl h1)
  ·exact .inr (.inr (List.mem_append_right _ h1))
 ·exact .inr (.inr (List.mem_append_left _ h1))⟩
theorem ax.at(h:ax s)(r:Int):mX s.nodes.length s.cs.length (bE s.nodes r):=by
 unfold bE;split;·refine h.nd _ ?_;rw[iX,List.getElem?_eq_getElem (by omega)];exact List.getElem_mem _
 ·exact Qb _ _
theorem ax.cell(h:ax s)(c:Int):bK s.cs c<=s.nodes.length:=by
 unfold bK;split;·exact mU h.cs _
 ·exact bN _
theorem ax.kG(h:ax s){c o n:Int}(hn:n<=s.nodes.length):ax ⟨s.nodes,eL s.cs c o n,s.gen⟩:=by
 refine⟨λ v hv=>by simp only[gR];exact h.nd v hv,λ v hv=>?_,h.two⟩;simp only[eL] at hv;split at hv
 ·rcases List.mem_or_eq_of_mem_set hv with hv|rfl;·exact h.cs v hv
  ·exact hn
 ·exact h.cs v hv
def eF:Tr->Mm->Tr×Mm
 | .alloc n i k,s=>eF (k ((s.nodes.length+1:Nat):Int)) (s.push n i)
 | .cell i k,s=>eF (k ((s.cs.length+1:Nat):Int)) ⟨s.nodes,s.cs++[i],s.gen⟩
 | .gen k,s=>eF (k (s.gen+1)) ⟨s.nodes,s.cs,s.gen+1⟩
 | .node r k,s=>eF (k (bE s.nodes r)) s
 | t,s=>(t,s)
def nxT:Tr->Mm->Tr×Mm
 | .load c k,s=>(k (bK s.cs c),s)
 | .kG c o n k,s=>(k (rj s.cs c o),⟨s.nodes,eL s.cs c o n,s.gen⟩)
 | t,s=>(t,s)
def Ep(p:Tr×Mm):Tr×Mm:=eF (nxT p.1 p.2).1 (nxT p.1 p.2).2
def Tr.live:Tr->Bool
 | .done _=>false
 | _=>true
def jI(p:Tr×Mm):Nat->Tr×Mm
 | 0=>p
 | k+1=>Ep (jI p k)
theorem aDz{t t':Tr}{s s':Mm}(h:Lp t s t' s'):nxT t s=(t',s')/\∀u,eF t u=(t,u):=by
 cases h with
 | load c k s=>exact⟨rfl,λ _=>rfl⟩
 | kG c o n k s b hb=>rw[X2 hb];exact⟨rfl,λ _=>rfl⟩
theorem ls{t t':Tr}{s s':Mm}(h:Sp t s t' s'):eF t s=eF t' s':=by cases h<;>rfl
theorem n7{j:Nat}{t t':Tr}{s s':Mm}(h:Rc j t s t' s'):(j=0->eF t s=eF t' s')/\(j=1->Ep (eF t s)=eF t' s'):=by
 induction h with
 | refl t s=>exact⟨λ _=>rfl,λ h=>nomatch h⟩
 | eF _ hs ih=>exact⟨λ e=>(ih.1 e).trans (ls hs),λ e=>(ih.2 e).trans (ls hs)⟩
 | loud _ hs ih=>refine⟨(λ e=>nomatch e),λ e=>?_⟩;obtain⟨h1,h2⟩:=aDz hs;rw[ih.1 (by omega),h2];unfold Ep;rw[h1]
theorem oH(p:Tr×Mm)(j:Nat):∀k,jI p (j+k)=jI (jI p j) k
 | 0=>rfl
 | k+1=>by show Ep (jI p (j+k))=_;rw[oH p j k];rfl
end
end Go.Ct
namespace Go.Proofs.YtbajmaoegmbfgaaGreat
open Go.Proofs.Tryz
open Go Go.RowKit Go.Ct
section
variable{t t':Tr}{s s':Mm}
theorem Gn(h:dK t=true)(s:Mm):eF t s=(t,s):=by cases t<;>first|rfl|cases h
theorem aCn(h:Rc 0 t s t' s')(ha:dK t'=true):eF t s=(t',s'):=by rw[(n7 h).1 rfl,Gn ha]
theorem aBS(h:Rc 1 t s t' s')(h0:dK t=true)(ha:dK t'=true):Ep (t,s)=(t',s'):=by rw[<- Gn h0 s,(n7 h).2 rfl,Gn ha]
abbrev fR(a:AS):Obj:=aO a.L a.cs a.gen a.acc a.pn a.cn a.pc a.cc
abbrev gC(a:AS):List Ow:=mW a.L a.cs a.pn a.cn a.pc a.cc
def Af(b:Nat)(R:Cd->Mm->Fr->Prop)(a:AS)(B:Fr)(D:List Nat)(w:World):Ending->World->Prop:=λ e w'=>∃y:Cd×Fr×AS,e=.returned (.agg ⟨y.1.cells⟩)/\(R y.1 y.2.2.mm (y.2.1++B)/\y.2.2.Ok/\a.iN y.2.2 y.2.1)/\SF w D [(b,fR y.2.2)] [] y.2.1 (gC y.2.2) w'
def C6(b:Nat)(f:FuncId)(cap:List Value)(arg:List Value)(B:Fr)(s:Mm)(R:Cd->Mm->Fr->Prop):Prop :=∀(a:AS) (D:List Nat) (A:Fr) (w:World),a.mm=s->a.Ok->s.Small->(∀f∈aN a.L,f∈A)->(∀f∈B,f∈A)->SF w D [(b,fR a)] A [] (gC a) w->Calls prog f ⟨arg++cap⟩ w (Af b R a B D w)
def jT(b:Nat):Tr->Mm->Cd->Mm->Fr->Prop
 | .done r,s,c,s2,_=>s2=s/\c=iG r
 | .load x k,s,c,s2,B=>s2=s/\x<=9223372036854775807/\∃f cap,c=oB x f cap/\plain prog f=true/\∀(v:Int) (s1:Mm),s.Le s1->v<=s1.nodes.length->C6 b f cap [.int .i64 v] B s1 λ c' s' B'=>jT b (k v) s1 c' s' B'
 | .kG x o n k,s,c,s2,B=>s2=s/\x<=9223372036854775807/\n<=s.nodes.length/\∃f cap,c=wW x o n f cap/\plain prog f=true/\∀(v:Bool) (s1:Mm),s.Le s1->C6 b f cap [.bool v] B s1 λ c' s' B'=>jT b (k v) s1 c' s' B'
 | .alloc n i k,s,c,s2,B=>jT b (k ((s.nodes.length+1:Nat):Int)) (s.push n i) c s2 B
 | .cell i k,s,c,s2,B=>jT b (k ((s.cs.length+1:Nat):Int)) ⟨s.nodes,s.cs++[i],s.gen⟩ c s2 B
 | .gen k,s,c,s2,B=>jT b (k (s.gen+1)) ⟨s.nodes,s.cs,s.gen+1⟩ c s2 B
 | .node r k,s,c,s2,B=>r<=s.nodes.length/\jT b (k (bE s.nodes r)) s c s2 B
 | .stuck,_,_,_,_=>True
def A3(b:Nat)(K:Int->Tr)(s:Mm)(f:FuncId)(cap:List Value)(B:Fr):Prop:=plain prog f=true/\∀(v:Int) (s1:Mm),s.Le s1->v<=s1.nodes.length->C6 b f cap [.int .i64 v] B s1 λ c' s' B'=>jT b (K v) s1 c' s' B'
def xu(b:Nat)(K:Bool->Tr)(s:Mm)(f:FuncId)(cap:List Value)(B:Fr):Prop:=plain prog f=true/\∀(v:Bool) (s1:Mm),s.Le s1->C6 b f cap [.bool v] B s1 λ c' s' B'=>jT b (K v) s1 c' s' B'
def Zs(b:Nat)(t:Tr)(s:Mm)(f:FuncId)(cap:List Value)(B:Fr):Prop:=plain prog f=true/\∀s1:Mm,s.Le s1->C6 b f cap [] B s1 λ c' s' B'=>jT b t s1 c' s' B'
section
variable{b:Nat}{f:FuncId}{cap arg:List Value}{B B2:Fr}{s s1 s2:Mm}{t:Tr}{c:Cd}
theorem C6.more{R R2:Cd->Mm->Fr->Prop}(h:C6 b f cap arg B s R)(hb:∀x∈B,x∈B2)(hR:∀c m C C2,(∀x∈C,x∈C2)->R c m C->R2 c m C2):C6 b f cap arg B2 s R2:=λ a D A w e1 ok hs h1 h2 hw =>
 (h a D A w e1 ok hs h1 (λ x hx=>h2 x (hb x hx)) hw).mono λ e w' ⟨y,he,⟨hr,h3⟩,hs⟩=>⟨y,he,⟨hR _ _ _ _ (λ x hx=>by
  rcases List.mem_append.1 hx with h1|h1;·exact List.mem_append_left _ h1
  ·exact List.mem_append_right _ (hb x h1)) hr,h3⟩,hs⟩
theorem jT.more:∀{t:Tr} {s s2:Mm} {c:Cd} {B B2:Fr},jT b t s c s2 B->(∀x∈B,x∈B2)->jT b t s c s2 B2
 | .done _,_,_,_,_,_,h,_=>h
 | .load _ k,_,_,_,_,_,⟨h0,h1,f,cap,h2,h3,h4⟩,hb=>⟨h0,h1,f,cap,h2,h3,λ v s1 l hv=>(h4 v s1 l hv).more hb λ _ _ _ _ hC h=>jT.more (t:=k v) h hC⟩
 | .kG _ _ _ k,_,_,_,_,_,⟨h0,h1,hn,f,cap,h2,h3,h4⟩,hb=>⟨h0,h1,hn,f,cap,h2,h3,λ v s1 l=>(h4 v s1 l).more hb λ _ _ _ _ hC h=>jT.more (t:=k v) h hC⟩
 | .alloc n i k,s,_,_,_,_,h,hb=>jT.more (t:=k ((s.nodes.length+1:Nat):Int)) h hb
 | .cell i k,s,_,_,_,_,h,hb=>jT.more (t:=k ((s.cs.length+1:Nat):Int)) h hb
 | .gen k,s,_,_,_,_,h,hb=>jT.more (t:=k (s.gen+1)) h hb
 | .node r k,s,_,_,_,_,h,hb=>⟨h.1,jT.more (t:=k (bE s.nodes r)) h.2 hb⟩
 | .stuck,_,_,_,_,_,_,_=>trivial
theorem A3.more{K:Int->Tr}(h:A3 b K s f cap B)(hb:∀x∈B,x∈B2):A3 b K s f cap B2:=⟨h.1,λ v s1 l hv=>(h.2 v s1 l hv).more hb λ _ _ _ _ hC h=>jT.more h hC⟩
theorem xu.more{K:Bool->Tr}(h:xu b K s f cap B)(hb:∀x∈B,x∈B2):xu b K s f cap B2:=⟨h.1,λ v s1 l=>(h.2 v s1 l).more hb λ _ _ _ _ hC h=>jT.more h hC⟩
theorem Zs.more(h:Zs b t s f cap B)(hb:∀x∈B,x∈B2):Zs b t s f cap B2:=⟨h.1,λ s1 l=>(h.2 s1 l).more hb λ _ _ _ _ hC h=>jT.more h hC⟩
theorem A3.le{K:Int->Tr}(h:A3 b K s f cap B)(l:s.Le s1):A3 b K s1 f cap B:=⟨h.1,λ v s2 l2 hv=>h.2 v s2 (l.trans l2) hv⟩
theorem xu.le{K:Bool->Tr}(h:xu b K s f cap B)(l:s.Le s1):xu b K s1 f cap B:=⟨h.1,λ v s2 l2=>h.2 v s2 (l.trans l2)⟩
theorem Zs.le(h:Zs b t s f cap B)(l:s.Le s1):Zs b t s1 f cap B:=⟨h.1,λ s2 l2=>h.2 s2 (l.trans l2)⟩
theorem jT.kind(h:jT b t s c s2 B)(ha:dK t=true):(c.a.k=0↔t.live=false)/\(∀r,t=.done r->c.r=r)/\(∀x,t.acc=some x->c.a=x):=by
 cases t with
 | done r=>rw[h.2];exact⟨⟨λ _=>rfl,λ _=>rfl⟩,(λ r e=>by cases e;rfl),(λ x e=>nomatch e)⟩
 | load x k=>obtain⟨_,_,f,cap,e,_⟩:=h;rw[e];exact⟨⟨λ h=>absurd h (show(1:Int)≠0 by decide),(λ h=>nomatch h)⟩,(λ r e=>nomatch e),λ x e=>by cases e;rfl⟩
 | kG x o n k=>obtain⟨_,_,_,f,cap,e,_⟩:=h;rw[e];exact⟨⟨λ h=>absurd h (show(2:Int)≠0 by decide),(λ h=>nomatch h)⟩,(λ r e=>nomatch e),λ x e=>by cases e;rfl⟩
 | alloc n i k=>cases ha
 | cell i k=>cases ha
 | gen k=>cases ha
 | node r k=>cases ha
 | stuck=>cases ha
theorem jT.eF:∀{t:Tr} {s s2:Mm} {c:Cd} {n m:Nat},bW t n m->jT b t s c s2 B->(eF t s).2=s2/\dK (eF t s).1=true/\jT b (eF t s).1 s2 c s2 B
 | .done _,_,_,_,_,_,_,h=>by obtain⟨rfl,h2⟩:=h;exact⟨rfl,rfl,rfl,h2⟩
 | .load _ k,_,_,_,_,_,_,h=>by obtain⟨rfl,h2⟩:=h;exact⟨rfl,rfl,rfl,h2⟩
 | .kG _ _ _ k,_,_,_,_,_,_,h=>by obtain⟨rfl,h2⟩:=h;exact⟨rfl,rfl,rfl,h2⟩
 | .alloc n i k,s,_,_,_,0,ht,h=>ht.elim
 | .alloc n i k,s,_,_,_,_+1,ht,h=>jT.eF (t:=k ((s.nodes.length+1:Nat):Int)) (ht _) h
 | .cell i k,s,_,_,_,0,ht,h=>ht.elim
 | .cell i k,s,_,_,_,_+1,ht,h=>jT.eF (t:=k ((s.cs.length+1:Nat):Int)) (ht _) h
 | .gen k,s,_,_,_,0,ht,h=>ht.elim
 | .gen k,s,_,_,_,_+1,ht,h=>jT.eF (t:=k (s.gen+1)) (ht _) h
 | .node r k,s,_,_,_,_,ht,h=>jT.eF (t:=k (bE s.nodes r)) (ht _) h.2
 | .stuck,_,_,_,_,_,ht,_=>ht.elim
end
section
variable{S:List (Nat×Value)}{w0 w:World}{M:List Nat}{H:List (Nat×Obj)}{A F:Fr}{O:List Ow}{ty:TypeId}{pos:String}{af:Array Edge}{gd:Option (Nat×Bool)}{X:Type}{V:X->Value}
theorem cMf{φ:X->Prop}{hs H':List (Nat×Obj)}{os O':List Ow}{hs' H1:X->List (Nat×Obj)}{os' O1:X->List Ow}{Fc F1:X->Fr}{A0:Fr}{is js:List Nat}{f:FuncId}{cap:List Value}{xs:List Operand}{at_:Array TypeId}{vs:List Value}{dst:Option Nat}{x:Operand}
  (hx:ev S x=.func (.func f) #[] ⟨cap⟩:=by exact rfl) (ha:qR S xs=vs:=by(repeat (first|exact cN _|(apply bX;focus ((conv=>{lhs;whnf});try exact rfl))));first|done|fail) (hp:plain prog f=true)
  (hc:∀w,SF w (Ks hs os) hs A0 [] os w->Calls prog f ⟨vs++cap⟩ w λ e w'=>∃x,e=.returned (V x)/\φ x/\SF w (Ks hs os) (hs' x) [] (Fc x) (os' x) w')
  (hH:mR H is hs H':=by(repeat (first|exact mR.nil|(apply mR.cons;(focus ((repeat (first|exact zI.head|apply zI.tail));done));simp only[rZ])));first|done|fail)
  (hO:mR O js os O':=by(repeat (first|exact mR.nil|(apply mR.cons;(focus ((repeat (first|exact zI.head|apply zI.tail));done));simp only[rZ])));first|done|fail)
  (hA:bH A F O' A0:=by exact bH.of (λ _ h=>Or.inr (Or.inl h)))
  (hl1:∀x,is.length=(hs' x).length:=by intro x;exact rfl) (hl2:∀x,js.length=(os' x).length:=by intro x;exact rfl)
  (hH1:∀x,jE is (hs' x) H'=H1 x:=by intro x;first|(simp only[jE,sS];exact rfl)|exact rfl) (hF1:∀x,Fc x++F=F1 x:=by intro x;first|(simp only[List.nil_append,List.cons_append];exact rfl)|exact rfl) (hO1:∀x,jE js (os' x) O'=O1 x:=by intro x;simp only[jE,sS,mW];exact rfl) :
  bG prog S (SF w0 M H A F O) ⟨dst,.call {callee:=.value x,args:=⟨xs⟩,argTypes:=at_},ty,pos,af,gd⟩ X V (λ x w=>φ x/\SF w0 M (H1 x) A (F1 x) (O1 x) w) :=
 gW (yj hx hp ha) λ w hw=>(hc w (hw.rM hH hO hA)).mono λ _ _ ⟨x,he,hx,hs⟩=>⟨x,he,hx,by have:=hw.yT (hs':=hs' x) (Hc:=[]) (os':=os' x) (Oc:=[]) hH hO (by simpa using hs) (hl1 x) (hl2 x);rw[<- hH1 x,<- hF1 x,<- hO1 x];simpa using this⟩
end
end
end Go.Proofs.YtbajmaoegmbfgaaGreat
namespace Go.Ct
open Go Go.RowKit
section
theorem SF.same{w w':World}{b:Nat}{o:Obj}(h:SF w [b] [(b,o)] [] [] [] w')(hb:w.heap[b]?=some o):St w [] [] w' :=
 ⟨h.st.os,h.st.tape,h.st.output,h.st.size,λ k hk _=>by
  by_cases e:k=b;·subst e;rw[h.st.has (k,o) (List.mem_singleton.2 rfl),hb]
  ·exact h.st.lC k hk (by simpa using e),λ _ h=>(List.not_mem_nil h).elim,λ _ h=>(List.not_mem_nil h).elim,List.nodup_nil⟩
theorem SF.aAz{w:World}{b:Nat}{o:Obj}(hb:w.heap[b]?=some o):SF w [b] [(b,o)] [] [] [] w :=⟨⟨rfl,rfl,rfl,Nat.le_refl _,λ _ _ _=>rfl,λ p hp=>by rw[List.mem_singleton.1 hp];exact hb,λ p hp=>by rw[List.mem_singleton.1 hp];exact .inl (List.mem_singleton.2 rfl),by simp⟩,λ _ h=>(List.not_mem_nil h).elim,λ _ h=>(List.not_mem_nil h).elim,λ _ h=>(List.not_mem_nil h).elim,by simp[Ks]⟩
end
end Go.Ct
namespace Go.Proofs.YtbajmaoegmbfgaaGreat
open Go.Proofs.Tryz
open Go Go.RowKit Go.Ct
section
abbrev tkC(b:Nat)(c:Cd)(n:Nat)(z:Bool):List Value:=[.iface 42 (.pointer (some ⟨b,0,none⟩)),.int .i64 c.a.k,.int .i64 c.a.c,.int .i64 c.a.o,.int .i64 c.a.n,fnV c.f,fnV c.g,.int .i64 c.r.err,.bool c.r.found,.int .u64 c.r.val,.string c.r.key,.int .i64 c.r.fQ,.int .i64 c.r.ref,.int .i64 c.r.root,.bool c.r.ro,.int .i64 ((n:Nat):Int),.bool z]
abbrev tO(b:Nat)(c:Cd)(n:Nat):Obj:=.cells ⟨tkC b c n false⟩ 141 (0,0)
section
variable{D:List Nat}{A B:Fr}{L:List aQ}{cs:List Int}{gen acc:Int}{pn pc:Option Addr}{cn cc b bt n:Nat}{w:World}{c:Cd}
theorem Bp(h:w.heap[bt]?=some (tO b c n)):Calls prog 33 #[.pointer (some ⟨bt,0,none⟩)] w λ e w'=>e=.returned (.bool (c.a.k==0))/\St w [] [] w':=by refine enter func33 ntmps33 rfl rfl (SF.aAz h) ?_;simp only[cC];refine cU ?_;refine Jw ?_;refine aE ?_;refine J3 ?_;refine Ti ?_;refine aS results33 (λ w hw=>?_);exact⟨rfl,hw.bB.same h⟩
theorem U9(h:w.heap[bt]?=some (tO b c n)):Calls prog 34 #[.pointer (some ⟨bt,0,none⟩)] w λ e w'=>e=.returned (.agg ⟨(if c.a.k=0 then c.r else Rs.zero).cells⟩)/\St w [] [] w':=by
 refine enter func34 ntmps34 rfl rfl (SF.aAz h) ?_;simp only[cC];refine J0 ?_;refine aJ (λ x2=>?_);refine aG ?_;refine jS ?_;refine aP (cV (hc:=λ w1 hw=>Bp (hw.st.at cY))) (λ x4=>?_);refine oG ?_;refine bD (λ c5=>?_) (λ c5=>?_);·refine Kc0 ?_;refine aZ results34 (λ w hw=>?_);refine⟨?_,hw.bB.same h⟩;rw[if_neg (by simpa using c5)];rfl
 ·refine aW ?_;refine Jw ?_;refine aE ?_;refine aC (aU (k:=8) (vs:=c.r.cells) rf cY eD rfl rfl) rfl ?_;refine J5 ?_;refine aZ results34 (λ w hw=>?_);refine⟨?_,hw.bB.same h⟩;rw[if_pos (by simpa using c5)];rfl
end
end
end Go.Proofs.YtbajmaoegmbfgaaGreat
namespace Go.Ct
open Go Go.RowKit
section
abbrev AS.aa(a:AS)(cs:List Int):AS:={a with cs:=cs,acc:=up a.acc}
theorem AS.Ok.aa{a:AS}(ok:a.Ok){x o n:Int}(hn:n<=a.mm.nodes.length):(a.aa (eL a.cs x o n)).Ok:=⟨ok.fit,ok.mo.kG hn⟩
end
end Go.Ct
namespace Go.Proofs.YtbajmaoegmbfgaaGreat
open Go.Proofs.Tryz
open Go Go.RowKit Go.Ct
section
section
variable{D:List Nat}{A B:Fr}{a:AS}{b bt n:Nat}{w:World}{c:Cd}{t:Tr}{f:FuncId}{cap:List Value}
theorem ia(h:Zs b t a.mm f cap B)(ok:a.Ok)(hm:a.mm.Small)(hA:∀f∈aN a.L,f∈A)(hB:∀x∈B,x∈A)(hs:SF w D [(b,fR a)] A [] (gC a) w) :
  Calls prog 118 #[.func (.func f) #[] ⟨cap⟩] w (Af b (λ c' s' B'=>jT b t a.mm c' s' B') a B D w):=by
 obtain⟨hp,h⟩:=h;refine V5 func118 ntmps118 rfl rfl hs ?_;simp only[cC];refine K1j ?_;refine xL (λ x2=>?_);refine jB ?_;refine K1j ?_;(refine iB cG rfl ?_);refine I0 rfl ?_;refine jB ?_;refine gG ?_;refine K1j ?_;refine qC ?_;refine iB (Ov rf rf (aEb _ _ _)) rfl ?_;refine jB ?_;refine L3 (λ c5=>?_) (λ c5=>?_);·exact nv c5
 ·revert c5;(skip);intro c5;refine Fy ?_;refine K1j ?_;refine qC ?_;refine B9 (cMf (V:=λ y:Cd×Fr×AS=>.agg ⟨y.1.cells⟩) (hs:=[(b,fR a)]) (os:=gC a) (hs':=λ y=>[(b,fR y.2.2)]) (os':=λ y=>gC y.2.2) (Fc:=λ y=>y.2.1) (A0:=A) (f:=f) (cap:=cap) (vs:=[]) (hp:=hp) (hc:=λ w1 hw=>h a.mm (Mm.Le.refl _) a _ A w1 rfl ok hm hA hB hw)) (λ x8 h8=>?_);refine M3 (gE λ _=>aR rf cY rf (cD _) eD rf iR) (λ _=>?_);refine jB ?_;refine Hr (Ty _) (by kernel_rfl) results118 (.cell rf cY eD .nil) (λ w hw=>?_);exact⟨x8,rfl,h8,hw.ret E0g (bA.iT λ f hf=>by simpa using hf) (List.Sublist.refl _)⟩
theorem Iz{x:Int}{k:Int->Tr}(hr:jT b (.load x k) a.mm c a.mm B)(ok:a.Ok)(hm:a.mm.Small)(hA:∀f∈aN a.L,f∈A)(hB:∀x∈B,x∈A)(hs:SF w D [(b,fR a)] A [] (gC a) w) :
  Calls prog 86 #[.iface 42 (.pointer (some ⟨b,0,none⟩)),.agg ⟨c.cells⟩] w (Af b (λ c' s' B'=>jT b (k (bK a.cs x)) a.mm c' s' B') a B D w):=by
 obtain⟨_,hx,f,cap,rfl,hp,hk⟩:=hr;have hl:a.cs.length<=274877906944:=by have:=hm.2;show a.mm.cs.length<=_;omega
 have hv:bK a.cs x<=a.mm.nodes.length:=ok.mo.cell x;refine V5 func86 ntmps86 rfl rfl hs ?_;simp only[cC]
 refine K1j ?_;refine su (λ x3=>?_);refine xL (λ x4=>?_);refine jB ?_;refine K1j ?_;(refine iB cG rfl ?_);refine I0 rfl ?_;refine jB ?_;refine K1j ?_;refine eQ ?_;refine iB (aU (k:=4) (vs:=(oB x f cap).a.cells) rf cY eD rfl rfl) rfl ?_;refine xL (λ x5=>?_);refine Pq (λ _=>?_);refine K2p ?_;refine mi ?_;refine jB ?_;refine L3 (λ c13=>?_) (λ c13=>?_)
 ·revert c13;(refine cv1 ?_);intro c13;refine K1j ?_;refine Aq (λ _=>?_);refine jB ?_;refine gG ?_;refine K1j ?_;refine qC ?_;refine iB (W1 rf rf (Ex _)) rfl ?_;refine jB ?_;refine L3 (λ c15=>?_) (λ c15=>?_)
  ·revert c15;(skip);intro c15;refine dZ ?_;refine qC ?_;refine eQ ?_;refine oL ?_;refine B9 (cMI (V:=λ _:Unit=>.int .i64 (bK a.cs x)) (os':=λ _=>gC (a.aa a.cs)) (hs':=λ _=>[(b,fR (a.aa a.cs))]) (Fc:=λ _=>[]) (A0:=A) (hm:=λ w=>ly _ _ w) (hc:=λ w hw=>y3 hw x hx hl)) (λ x19 h19=>?_);refine Aq (λ _=>?_);refine K2p ?_;refine iB (Ov rf rf (aCU _ _ _)) rfl ?_;refine jB ?_;refine L3 (λ c22=>?_) (λ c22=>?_);·exact nv c22
   ·revert c22;(skip);intro c22;refine Fy ?_;refine K1j ?_;refine eQ ?_;refine oL ?_;refine qC ?_;refine B9 (cMf (V:=λ y:Cd×Fr×AS=>.agg ⟨y.1.cells⟩) (hs:=[(b,fR (a.aa a.cs))]) (os:=gC (a.aa a.cs)) (hs':=λ y=>[(b,fR y.2.2)]) (os':=λ y=>gC y.2.2) (Fc:=λ y=>y.2.1) (A0:=A) (f:=f) (cap:=cap) (vs:=[.int .i64 (bK a.cs x)]) (hp:=hp) (hc:=λ w1 hw=>hk (bK a.cs x) a.mm (Mm.Le.refl _) hv (a.aa a.cs) _ A w1 rfl ⟨ok.fit,ok.mo⟩ hm hA hB hw)) (λ x27 h27=>?_);refine M3 (gE λ _=>aR rf cY rf (cD _) eD rf iR) (λ _=>?_);refine jB ?_;refine Hr (zF _) (by kernel_rfl) results86 (.cell rf cY eD .nil) (λ w hw=>?_);exact⟨x27,rfl,⟨h27.1,h27.2.1,⟨h27.2.2.le,h27.2.2.fam⟩⟩,hw.ret E0g (bA.iT λ f hf=>by simpa using hf) (List.Sublist.refl _)⟩
  ·exact nv c15
 ·revert c13;(refine cv2 ?_);intro c13;exact(c13 rfl).elim
theorem Kp{x o n:Int}{k:Bool->Tr}(hr:jT b (.kG x o n k) a.mm c a.mm B)(ok:a.Ok)(hm:a.mm.Small)(hA:∀f∈aN a.L,f∈A)(hB:∀x∈B,x∈A)(hs:SF w D [(b,fR a)] A [] (gC a) w) :
  Calls prog 86 #[.iface 42 (.pointer (some ⟨b,0,none⟩)),.agg ⟨c.cells⟩] w (Af b (λ c' s' B'=>jT b (k (rj a.cs x o)) ⟨a.mm.nodes,eL a.cs x o n,a.gen⟩ c' s' B') a B D w):=by
 obtain⟨_,hx,hn,f,cap,rfl,hp,hk⟩:=hr;have hl:a.cs.length<=274877906944:=by have:=hm.2;show a.mm.cs.length<=_;omega
 have hle:a.mm.Le ⟨a.mm.nodes,eL a.cs x o n,a.gen⟩:=⟨⟨[],by simp⟩,by show a.cs.length<=(eL a.cs x o n).length;rw[gR];exact Nat.le_refl _⟩;have hm2:Mm.Small ⟨a.mm.nodes,eL a.cs x o n,a.gen⟩:=⟨hm.1,by show(eL a.cs x o n).length<=_;rw[gR];exact hm.2⟩;refine V5 func86 ntmps86 rfl rfl hs ?_;simp only[cC]
 refine K1j ?_;refine su (λ x3=>?_);refine xL (λ x4=>?_);refine jB ?_;refine K1j ?_;(refine iB cG rfl ?_);refine I0 rfl ?_;refine jB ?_;refine K1j ?_;refine eQ ?_;refine iB (aU (k:=4) (vs:=(wW x o n f cap).a.cells) rf cY eD rfl rfl) rfl ?_;refine xL (λ x5=>?_);refine Pq (λ _=>?_);refine K2p ?_;refine mi ?_;refine jB ?_;refine L3 (λ c13=>?_) (λ c13=>?_);·revert c13;(refine cv1 ?_);intro c13;exact absurd (show(2:Int)=1 from c13) (by decide)
 ·revert c13;(refine cv2 ?_);intro c13;refine Fy ?_;refine K1j ?_;refine qC ?_;refine iB (W1 rf rf (Ex _)) rfl ?_;refine qC ?_;(refine xB ?_;refine qC ?_);((refine xB ?_;refine eQ ?_));((refine xB ?_;refine oL ?_));((refine xB ?_;refine eQ ?_));((refine xB ?_;refine oL ?_));((refine xB ?_;refine eQ ?_));((refine xB ?_;refine oL ?_));((refine xB ?_;refine B9 (cMI (V:=Value.bool) (os':=λ _=>gC (a.aa (eL a.cs x o n))) (hs':=λ _=>[(b,fR (a.aa (eL a.cs x o n)))]) (Fc:=λ _=>[]) (A0:=A) (hm:=λ w=>vn _ _ _ _ w) (hc:=λ w hw=>aBE hw x o n hx hl)) (λ x38 h38=>?_)));refine xq ?_;refine Aq (λ _=>?_);refine K2p ?_;refine iB (Ov rf rf (aDG _ _ _)) rfl ?_;refine jB ?_;refine L3 (λ c42=>?_) (λ c42=>?_);·exact nv c42
  ·revert c42;(skip);intro c42;refine Fy ?_;refine K1j ?_;refine eQ ?_;refine oL ?_;refine qC ?_;refine B9 (cMf (V:=λ y:Cd×Fr×AS=>.agg ⟨y.1.cells⟩) (hs:=[(b,fR (a.aa (eL a.cs x o n)))]) (os:=gC (a.aa (eL a.cs x o n))) (hs':=λ y=>[(b,fR y.2.2)]) (os':=λ y=>gC y.2.2) (Fc:=λ y=>y.2.1) (A0:=A) (f:=f) (cap:=cap) (vs:=[.bool x38]) (hp:=hp) (hc:=λ w1 hw=>hk x38 _ hle (a.aa (eL a.cs x o n)) _ A w1 rfl (ok.aa hn) hm2 hA hB hw)) (λ x47 h47=>?_);refine M3 (gE λ _=>aR rf cY rf (cD _) eD rf iR) (λ _=>?_);refine jB ?_;refine Hr (zF _) (by kernel_rfl) results86 (.cell rf cY eD .nil) (λ w hw=>?_);exact⟨x47,rfl,⟨X2 h38▸h47.1,h47.2.1,⟨hle.trans h47.2.2.le,h47.2.2.fam⟩⟩,hw.ret E0g (bA.iT λ f hf=>by simpa using hf) (List.Sublist.refl _)⟩
def rW(b:Nat)(p:Tr×Mm)(a:AS)(B:Fr)(y:Cd×Fr×AS):Prop:=(jT b p.1 p.2 y.1 p.2 (y.2.1++B)/\y.2.2.mm=p.2)/\y.2.2.Ok/\a.iN y.2.2 y.2.1
variable{i m:Nat}
theorem rW.of{t0:Tr}{s0:Mm}{y:Cd×Fr×AS}(ht:bW t0 i m)(h:jT b t0 s0 y.1 y.2.2.mm (y.2.1++B)/\y.2.2.Ok/\a.iN y.2.2 y.2.1):rW b (Ct.eF t0 s0) a B y/\dK (Ct.eF t0 s0).1=true:=by obtain⟨h1,h2,h3⟩:=jT.eF ht h.1;exact⟨⟨⟨by rw[h1];exact h3,h1.symm⟩,h.2⟩,h2⟩
theorem Ta(ht:bW t (i+1) m)(ha:dK t=true)(hlv:t.live=true)(hr:jT b t a.mm c a.mm B)(ok:a.Ok)(hm:a.mm.Small)(hA:∀f∈aN a.L,f∈A)(hB:∀x∈B,x∈A)(hs:SF w D [(b,fR a)] A [] (gC a) w) :
  Calls prog 86 #[.iface 42 (.pointer (some ⟨b,0,none⟩)),.agg ⟨c.cells⟩] w λ e w'=>∃y:Cd×Fr×AS,e=.returned (.agg ⟨y.1.cells⟩)/\(rW b (Ep (t,a.mm)) a B y/\dK (Ep (t,a.mm)).1=true)/\SF w D [(b,fR y.2.2)] [] y.2.1 (gC y.2.2) w':=by
 cases t with
 | done r=>cases hlv
 | load x k=>exact(Iz hr ok hm hA hB hs).mono λ e w' ⟨y,he,h,hw⟩=>⟨y,he,rW.of (ht _) h,hw⟩
 | kG x o n k=>exact(Kp hr ok hm hA hB hs).mono λ e w' ⟨y,he,h,hw⟩=>⟨y,he,rW.of (ht _) h,hw⟩
 | alloc n i k=>cases ha
 | cell i k=>cases ha
 | gen k=>cases ha
 | node r k=>cases ha
 | stuck=>cases ha
theorem ai(ht:bW t (i+1) m)(ha:dK t=true)(hlv:t.live=true)(hr:jT b t a.mm c a.mm B)(ok:a.Ok)(hm:a.mm.Small)(hn:n<1000000000)(hA:∀f∈aN a.L,f∈A)(hB:∀x∈B,x∈A)(hs:SF w D [(bt,tO b c n),(b,fR a)] A [] (gC a) w) :
  Calls prog 37 #[.pointer (some ⟨bt,0,none⟩)] w λ e w'=>∃y:Cd×Fr×AS,e=.returned (.tuple #[])/\(rW b (Ep (t,a.mm)) a B y/\dK (Ep (t,a.mm)).1=true)/\SF w D [(bt,tO b y.1 (n+1)),(b,fR y.2.2)] [] y.2.1 (gC y.2.2) w':=by
 have hk:c.a.k≠0:=λ e=>by have:=(hr.kind ha).1.1 e;rw[hlv] at this;cases this
 refine enter func37 ntmps37 rfl rfl hs ?_;simp only[cC];refine jS ?_;refine aP (cV (hc:=λ w1 hw=>Bp (hw.st.at cY))) (λ x3=>?_);refine aA ?_;(refine eE 4 (λ g4=>?_) (λ g4=>?_)<;>(try (exfalso;omega))<;>((refine Ka3 ?_)));((refine aF ?_;refine dO ?_));refine J6 ?_;refine Kd8 ?_;refine bD (λ c9=>?_) (λ c9=>?_);·exact nv c9
 ·try (exfalso;omega)
  refine aW ?_;refine J13 ?_;refine vO ?_;refine mP ?_;refine Eb ?_;refine Pd ?_;refine aT ?_;refine gH [0,1,2,3,4,5,6,7,8,9,10,11,12] ?_;refine dj ?_;refine J9 ?_;refine bU (i:=8) (hq:=(aU (k:=14) (vs:=c.cells) rf cY eD rfl rfl)) (h:=?_);refine bI (i:=9) (hq:=(cM (V:=λ y:Cd×Fr×AS=>.agg ⟨y.1.cells⟩) (Fc:=λ y=>y.2.1) (hs:=[(b,fR a)]) (os:=gC a) (A0:=A) (hs':=λ y=>[(b,fR y.2.2)]) (os':=λ y=>gC y.2.2) (hc:=λ w hw=>Ta ht ha hlv hr ok hm hA hB hw))) (h:=λ x29 h29=>?_);refine J4 ?_;refine mC (i:=12) (hq:=(gE λ _=>mK (off:=1) (vs:=x29.1.cells) (cs:=tkC b x29.1 (n+1) true) rf cY rf (cD _) eD (Nat.le_of_ble_eq_true rfl) rf iR)) (h:=λ _=>?_);refine eN ?_;refine yG ?_;refine Pd ?_;refine Cp results37 (λ w hw=>?_);exact⟨x29,rfl,h29,hw.ret (List.Sublist.refl _) (bA.iT λ f hf=>by simpa using hf) (List.Sublist.refl _)⟩
theorem me(ht:bW t i m)(h:Zs b t a.mm f cap B)(ok:a.Ok)(hm:a.mm.Small)(hA:∀f∈aN a.L,f∈A)(hB:∀x∈B,x∈A)(hs:SF w D [(b,fR a)] A [] (gC a) w) :
  Calls prog 73 #[.iface 42 (.pointer (some ⟨b,0,none⟩)),.func (.func f) #[] ⟨cap⟩] w λ e w'=>∃x:Nat×Cd×Fr×AS,e=.returned (.pointer (some ⟨x.1,0,none⟩))/\(rW b (Ct.eF t a.mm) a B x.2/\dK (Ct.eF t a.mm).1=true)/\SF w D [(x.1,tO b x.2.1 0),(b,fR x.2.2.2)] [] x.2.2.1 (gC x.2.2.2) w':=by refine enter func73 ntmps73 rfl rfl hs ?_;simp only[cC];refine Kb5 ?_;refine bM ?_;refine bJ (λ x8=>?_);refine zQ ?_;refine aD (cM (V:=λ y:Cd×Fr×AS=>.agg ⟨y.1.cells⟩) (Fc:=λ y=>y.2.1) (hs:=[(b,fR a)]) (os:=gC a) (A0:=A) (hs':=λ y=>[(b,fR y.2.2)]) (os':=λ y=>gC y.2.2) (hc:=λ w1 hw=>ia h ok hm hA hB hw)) (λ x11 h11=>?_);refine H0 ?_;refine bT (gE λ _=>mK (off:=1) (vs:=x11.1.cells) (cs:=tkC b x11.1 0 false) rf cY rf (cD _) eD (Nat.le_of_ble_eq_true rfl) rf iR) (λ _=>?_);refine aG ?_;refine Ka4 ?_;refine aS results73 (λ w hw=>?_);exact⟨(x8,x11),rfl,rW.of ht h11,hw.ret (List.Sublist.refl _) (bA.iT λ f hf=>by simpa using hf) (List.Sublist.refl _)⟩
end
end
section
variable{t:Tr}{n c:Nat}
theorem oU:∀{t:Tr} {n c:Nat} (s:Mm),bW t n c->∀c',bW (eF t s).1 n c'
 | .done _,_,_,_,_,_=>trivial
 | .load _ _,0,_,_,_,_=>trivial
 | .load _ _,_+1,_,_,h,_=>h
 | .kG _ _ _ _,0,_,_,_,_=>trivial
 | .kG _ _ _ _,_+1,_,_,h,_=>h
 | .alloc _ _ _,_,0,_,h,_=>h.elim
 | .alloc n i k,_,_+1,s,h,c'=>oU (s.push n i) (h _) c'
 | .cell _ _,_,0,_,h,_=>h.elim
 | .cell i k,_,_+1,s,h,c'=>oU ⟨s.nodes,s.cs++[i],s.gen⟩ (h _) c'
 | .gen _,_,0,_,h,_=>h.elim
 | .gen k,_,_+1,s,h,c'=>oU ⟨s.nodes,s.cs,s.gen+1⟩ (h _) c'
 | .node r k,_,_,s,h,c'=>oU (t:=k (bE s.nodes r)) s (h (bE s.nodes r)) c'
 | .stuck,_,_,_,h,_=>h.elim
theorem rF:∀{t:Tr} {n c:Nat} (s:Mm),bW t n c->dK (eF t s).1=true
 | .done _,_,_,_,_=>rfl
 | .load _ _,_,_,_,_=>rfl
 | .kG _ _ _ _,_,_,_,_=>rfl
 | .alloc _ _ _,_,0,_,h=>h.elim
 | .alloc n i k,_,_+1,s,h=>rF (s.push n i) (h _)
 | .cell _ _,_,0,_,h=>h.elim
 | .cell i k,_,_+1,s,h=>rF ⟨s.nodes,s.cs++[i],s.gen⟩ (h _)
 | .gen _,_,0,_,h=>h.elim
 | .gen k,_,_+1,s,h=>rF ⟨s.nodes,s.cs,s.gen+1⟩ (h _)
 | .node r k,_,_,s,h=>rF (t:=k (bE s.nodes r)) s (h (bE s.nodes r))
 | .stuck,_,_,_,h=>h.elim
theorem pB:∀{t:Tr} {n c:Nat} (s:Mm),bW t n c->(eF t s).2.nodes.length<=s.nodes.length+c/\(eF t s).2.cs.length<=s.cs.length+c
 | .done _,_,_,_,_=>⟨Nat.le_add_right _ _,Nat.le_add_right _ _⟩
 | .load _ _,_,_,_,_=>⟨Nat.le_add_right _ _,Nat.le_add_right _ _⟩
 | .kG _ _ _ _,_,_,_,_=>⟨Nat.le_add_right _ _,Nat.le_add_right _ _⟩
 | .alloc _ _ _,_,0,_,h=>h.elim
 | .alloc n i k,_,c+1,s,h=>by
  have h2:=pB (s.push n i) (h ((s.nodes.length+1:Nat):Int));have hl:=mH (k:=n.kind) (cs:=s.cs) (init:=i);simp only[Mm.push,List.length_append,List.length_cons,List.length_nil] at h2
  show(eF (k _) (s.push n i)).2.nodes.length<=_/\(eF (k _) (s.push n i)).2.cs.length<=_
  simp only[Mm.push]
  omega
 | .cell _ _,_,0,_,h=>h.elim
 | .cell i k,_,c+1,s,h=>by
  have h2:=pB ⟨s.nodes,s.cs++[i],s.gen⟩ (h ((s.cs.length+1:Nat):Int));simp only[List.length_append,List.length_cons,List.length_nil] at h2
  show(eF (k _) _).2.nodes.length<=_/\(eF (k _) _).2.cs.length<=_
  omega
 | .gen _,_,0,_,h=>h.elim
 | .gen k,_,c+1,s,h=>by
  have h2:=pB ⟨s.nodes,s.cs,s.gen+1⟩ (h (s.gen+1));dsimp only at h2;show(eF (k _) _).2.nodes.length<=_/\(eF (k _) _).2.cs.length<=_
  omega
 | .node r k,_,c,s,h=>pB (t:=k (bE s.nodes r)) s (h (bE s.nodes r))
 | .stuck,_,_,_,h=>h.elim
theorem gk(s:Mm)(ht:bW t (n+1) c)(ha:dK t=true)(c':Nat):bW (Ep (t,s)).1 n c':=by
 cases t with
 | done r=>trivial
 | load x k=>exact oU _ (ht _) c'
 | kG x o m k=>exact oU _ (ht _) c'
 | alloc n i k=>cases ha
 | cell i k=>cases ha
 | gen k=>cases ha
 | node r k=>cases ha
 | stuck=>cases ha
theorem s5(s:Mm)(ht:bW t (n+1) c)(ha:dK t=true):dK (Ep (t,s)).1=true:=by
 cases t with
 | done r=>rfl
 | load x k=>exact rF _ (ht _)
 | kG x o m k=>exact rF _ (ht _)
 | alloc n i k=>cases ha
 | cell i k=>cases ha
 | gen k=>cases ha
 | node r k=>cases ha
 | stuck=>cases ha
theorem dz(s:Mm)(ht:bW t (n+1) c)(ha:dK t=true):(Ep (t,s)).2.nodes.length<=s.nodes.length+64/\(Ep (t,s)).2.cs.length<=s.cs.length+64:=by
 cases t with
 | done r=>exact⟨Nat.le_add_right _ _,Nat.le_add_right _ _⟩
 | load x k=>exact pB s (ht _)
 | kG x o m k=>have:=pB ⟨s.nodes,eL s.cs x o m,s.gen⟩ (ht (rj s.cs x o));simp only[gR] at this;exact this
 | alloc n i k=>cases ha
 | cell i k=>cases ha
 | gen k=>cases ha
 | node r k=>cases ha
 | stuck=>cases ha
theorem Jd{t:Tr}{n:Nat}{s:Mm}(ht:bW t n 64)(ha:dK t=true):∀k,k<=n->bW (jI (t,s) k).1 (n-k) 64/\dK (jI (t,s) k).1=true/\(jI (t,s) k).2.nodes.length<=s.nodes.length+64*k/\(jI (t,s) k).2.cs.length<=s.cs.length+64*k
 | 0,_=>⟨ht,ha,Nat.le_refl _,Nat.le_refl _⟩
 | k+1,h=>by obtain⟨h1,h2,h3,h4⟩:=Jd ht ha k (by omega);rw[show n-k=n-(k+1)+1 by omega] at h1;have h5:(Ep (jI (t,s) k)).2.nodes.length<=(jI (t,s) k).2.nodes.length+64/\(Ep (jI (t,s) k)).2.cs.length<=(jI (t,s) k).2.cs.length+64:=dz (jI (t,s) k).2 h1 h2;exact⟨gk _ h1 h2 64,s5 _ h1 h2,by show(Ep (jI (t,s) k)).2.nodes.length<=_;omega,by show(Ep (jI (t,s) k)).2.cs.length<=_;omega⟩
def pF(p:Tr×Mm):Nat->Nat
 | 0=>0
 | k+1=>pF p k+if(jI p k).1.live=true then 1 else 0
theorem sg{p:Tr×Mm}(h:p.1.live=false):Ep p=p:=by obtain⟨t,s⟩:=p;cases t<;>first|rfl|cases h
theorem Jq{p:Tr×Mm}{j:Nat}(h:(jI p j).1.live=false):∀k,jI p (j+k)=jI p j/\pF p (j+k)=pF p j
 | 0=>⟨rfl,rfl⟩
 | k+1=>by
  obtain⟨h1,h2⟩:=Jq h k;refine⟨?_,?_⟩;·show Ep (jI p (j+k))=_;rw[h1,sg h]
  ·show pF p (j+k)+(if(jI p (j+k)).1.live=true then 1 else 0)=_;rw[h1,h2,h];rfl
theorem yD{p:Tr×Mm}{j k:Nat}(h:(jI p j).1.live=false)(hk:j<=k):jI p k=jI p j/\pF p k=pF p j:=by have:=Jq h (k-j);rwa [show j+(k-j)=k by omega] at this
structure TkI(b:Nat)(p:Tr×Mm)(a:AS)(B:Fr)(y:Cd×Fr×AS):Prop where
 rp:jT b p.1 p.2 y.1 p.2 (y.2.1++B)
 mm:y.2.2.mm=p.2
 ok:y.2.2.Ok
 gr:a.iN y.2.2 y.2.1
theorem TkI.of{b:Nat}{p:Tr×Mm}{a:AS}{B:Fr}{y:Cd×Fr×AS}(h:rW b p a B y):TkI b p a B y:=⟨h.1.1,h.1.2,h.2.1,h.2.2⟩
theorem ew{b:Nat}{t:Tr}{s:Mm}{c:Cd}{B:Fr}(h:jT b t s c s B)(ha:dK t=true):(c.a.k≠0↔t.live=true):=by
 have:=(h.kind ha).1;cases hl:t.live with
 | false=>rw[hl] at this;exact⟨λ hn=>absurd (this.2 rfl) hn,λ h=>nomatch h⟩
 | true=>rw[hl] at this;exact⟨λ _=>rfl,λ _ e=>nomatch this.1 e⟩
section
variable{D:List Nat}{A B:Fr}{a:AS}{b bt n:Nat}{w:World}{c:Cd}{t:Tr}
theorem Ru{most m:Nat}(ht:bW t m 64)(hmm:most<=m)(ha:dK t=true)(hr:jT b t a.mm c a.mm B)(ok:a.Ok)(hm:a.mm.nodes.length+64*most<=137438953472/\a.mm.cs.length+64*most<=137438953472)(hn:n+most<1000000000)(hA:∀f∈aN a.L,f∈A)(hB:∀x∈B,x∈A)(hs:SF w D [(bt,tO b c n),(b,fR a)] A [] (gC a) w) :
    Calls prog 30 #[.pointer (some ⟨bt,0,none⟩),.int .i64 ((most:Nat):Int)] w λ e w'=>∃y:Cd×Fr×AS,e=.returned (.int .i64 ((pF (t,a.mm) most:Nat):Int))/\TkI b (jI (t,a.mm) most) a B y/\SF w D [(bt,tO b y.1 (n+pF (t,a.mm) most)),(b,fR y.2.2)] [] y.2.1 (gC y.2.2) w':=by
     have hall:=λ k hk=>Jd (s:=a.mm) ht ha k hk;refine enter func30 ntmps30 rfl rfl hs ?_;simp only[cC]
     refine cU ?_;refine cU ?_;refine Dj ?_;refine mN [5,6,7,8,9,10,11,12,13,14,15,16,17,18,19,20,21,22,23,24] (λ y:Nat×Cd×Fr×AS=>[(5,.int .i64 ((y.1:Nat):Int))]) (λ y=>y.1<=most/\TkI b (jI (t,a.mm) y.1) a B y.2/\pF (t,a.mm) y.1=y.1) (λ y=>[(bt,tO b y.2.1 (n+y.1)),(b,fR y.2.2.2)]) (λ y=>y.2.2.1) (λ y=>gC y.2.2.2) (λ y=>most-y.1) ((0,c,[],a)) (⟨Nat.zero_le _,⟨hr,rfl,ok,AS.iN.refl a⟩,rfl⟩) (λ y f hx=>?_) (hw0:=λ w hw=>hw);refine K0a ?_;obtain⟨h1,h2,h3,h4⟩:=hall y.1 (by omega);have hrp:jT b (jI (t,a.mm) y.1).1 y.2.2.2.mm y.2.1 y.2.2.2.mm (y.2.2.1++B):=by rw[hx.2.1.mm];exact hx.2.1.rp
     have hsm:y.2.2.2.mm.Small:=by rw[hx.2.1.mm];exact⟨by omega,by omega⟩
     have hli:=ew hx.2.1.rp h2;refine D1 ?_;refine A1 ?_;(refine eE 9 (λ g9=>?_) (λ g9=>?_)<;>refine Ka0 ?_);all_goals ((first|refine aI ?_|(refine aF ?_;refine aP (cV (hc:=λ w1 hw=>Bp (hw.st.at cY))) (λ x11=>?_)));refine Oh ?_;refine aA ?_)
     all_goals (first|refine aI ?_|(refine eE 14 (λ g14=>?_) (λ g14=>?_)<;>refine Ka0 ?_))
     all_goals (refine Kb7 ?_;refine J6 ?_;refine Kc2 ?_)
     all_goals
      refine bD (λ c20=>?_) (λ c20=>?_)
      ·try exact nv c20
       all_goals (refine aW ?_;refine cO ?_;refine J2 ?_;refine aD (cM (V:=λ _:Cd×Fr×AS=>.tuple #[]) (hs:=[(bt,tO b y.2.1 (n+y.1)),(b,fR y.2.2.2)]) (os:=gC y.2.2.2) (Fc:=λ z=>z.2.1) (A0:=aN y.2.2.2.L++(y.2.2.1++B)) (hs':=λ z=>[(bt,tO b z.1 (n+y.1+1)),(b,fR z.2.2)]) (os':=λ z=>gC z.2.2) (hA:=bH.of λ f hf=>(List.mem_append.1 hf).elim (λ h1=>(hx.2.1.gr.fam f h1).elim .inl λ h2=>h2.elim (λ h3=>.inr (.inl (hA f h3))) λ h3=>.inr (.inr (.inl h3))) λ h1=>(List.mem_append.1 h1).elim (λ h2=>.inr (.inr (.inl h2))) λ h2=>.inr (.inl (hB f h2))) (hc:=λ w hw=>ai (i:=m-(y.1+1)) (m:=64) (by rw[show m-(y.1+1)+1=m-y.1 by omega];exact h1) h2 (hli.1 g14) hrp hx.2.1.ok hsm (by omega) (λ f hf=>List.mem_append_left _ hf) (λ f hf=>List.mem_append_right _ hf) hw)) (λ x22 h22=>?_);refine aG ?_;refine vF ?_;refine eV ?_)
       all_goals
        refine iS ((y.1+1,x22.1,x22.2.1++y.2.2.1,x22.2.2)) ?_ (hw1:=λ w hw=>hw)
        ·have e1:jI (t,a.mm) (y.1+1)=Ep ((jI (t,a.mm) y.1).1,y.2.2.2.mm):=by rw[hx.2.1.mm];rfl
         have h5:=TkI.of h22.1;have hlv:=hli.1 g14;refine⟨by show y.1+1<=most;omega,⟨?_,?_,h5.ok,hx.2.1.gr.trans h5.gr⟩,?_⟩
         ·rw[e1];show jT b _ _ _ _ (x22.2.1++y.2.2.1++B);rw[List.append_assoc];exact h5.rp
         ·rw[e1];exact h5.mm
         ·show pF (t,a.mm) y.1+_=y.1+1;rw[hlv,hx.2.2];rfl
      ·try exact nv c20
       all_goals (refine bR rfl ?_;refine Ka4 ?_)
       all_goals
        refine aS results30 (λ w hw=>?_);have e:jI (t,a.mm) most=jI (t,a.mm) y.1/\pF (t,a.mm) most=y.1:=by
         first
          | (have h:=yD (Bool.eq_false_iff.2 λ h=>hli.2 h g14) hx.1;exact⟨h.1,h.2.trans hx.2.2⟩)
          | (have em:most=y.1:=(by have:=hx.1;omega);rw[em];exact⟨rfl,hx.2.2⟩)
        rw[e.1,e.2];exact⟨y.2,rfl,hx.2.1,hw.ret (List.Sublist.refl _) (bA.iT λ f hf=>hf) (List.Sublist.refl _)⟩
end
end
section
theorem Wf{m:Nat->Option Int}{x:Int}:∀{k j:Nat},j<k->m j=some x->x∈oM m k
 | 0,_,h,_=>absurd h (Nat.not_lt_zero _)
 | k+1,j,hj,h=>by
  simp only[oM,List.mem_append,Option.mem_toList];by_cases e:j=k;·subst e;exact .inr h
  ·exact .inl (Wf (by omega) h)
theorem Bf{N:List Nv}{f:Int->List Pr}{p:Pr}:∀{l:List Int},p∈lK N f l↔∃b∈l,p∈if(bE N b).kind=4 then [((bE N b).key,(bE N b).val)] else f b
 | []=>⟨λ h=>(nomatch h),λ⟨_,h,_⟩=>(nomatch h)⟩
 | b::l=>by
  simp only[lK,List.mem_append,List.mem_cons,Bf (l:=l)];refine⟨λ h=>?_,λ⟨x,hx,h⟩=>?_⟩
  ·rcases h with h|⟨x,hx,h⟩;·exact⟨b,.inl rfl,h⟩
   ·exact⟨x,.inr hx,h⟩
  ·rcases hx with rfl|hx;·exact .inl h
   ·exact .inr ⟨x,hx,h⟩
theorem Rh{k:ByteArray}{v:Int}:∀{l:List Pr},pM l k=some v->(k,v)∈l
 | [],h=>nomatch h
 | p::l,h=>by
  unfold pM at h;split at h;·rename_i e;rw[<- e,<- Option.some.inj h];exact List.mem_cons_self ..
  ·exact List.mem_cons_of_mem _ (Rh h)
theorem rm{k:ByteArray}:∀{l:List Pr},pM l k=none->∀p∈l,p.1≠k
 | [],_,p,hp=>nomatch hp
 | q::l,h,p,hp=>by
  unfold pM at h;split at h;·cases h
  ·rename_i e;rcases List.mem_cons.1 hp with rfl|hp;·exact e
   ·exact rm h p hp
def FdV(key:ByteArray)(L:List Pr)(f:Bool)(v:Int):Prop:=(f=true/\(key,v)∈L)∨(f=false/\v=0/\∀p∈L,p.1≠key)
theorem w6{key:ByteArray}{L:List Pr}:FdV key L (pM L key).isSome ((pM L key).getD 0):=by
 cases e:pM L key with
 | none=>exact .inr ⟨rfl,rfl,rm e⟩
 | some v=>exact .inl ⟨rfl,Rh e⟩
section
variable{H:ByteArray->Nat}{σ:Kw}{t:dW}{h:Nat}{key:ByteArray}{K:Rs->Tr}
structure FdQ(σ:Kw)(T R:Tr)(d:Nat):Prop where
 run:jI (Ct.eF T σ.mm) (2*d)=Ct.eF R σ.mm
 lv:(jI (Ct.eF T σ.mm) (2*d-1)).1.live=true
 d1:1<=d
theorem xo{i:Int}(hi:(σ.nd i).kind=2)(hs:bC σ (σ.ce (σ.nd i).main)){p:Int}(hp:gQ σ.mm.nodes σ.mm.cs i=some p):p=σ.ce (σ.nd i).main:=by
 have hs':oP σ.mm.nodes σ.mm.cs i=0:=hs;unfold gQ at hp;split at hp;·exact(Option.some.inj hp).symm
 ·cases hp
theorem aBd{i:Int}{K:Int->Tr}(hs:bC σ (σ.ce (σ.nd i).main)):jI (Ct.eF (iM t i K) σ.mm) 2=Ct.eF (K (σ.ce (σ.nd i).main)) σ.mm/\(jI (Ct.eF (iM t i K) σ.mm) 1).1.live=true:=by have hs':bK σ.mm.cs (bE σ.mm.nodes (bK σ.mm.cs (bE σ.mm.nodes i).main)).prev=0:=hs;refine⟨?_,rfl⟩;show Ct.eF (if bK σ.mm.cs (bE σ.mm.nodes (bK σ.mm.cs (bE σ.mm.nodes i).main)).prev=0 then K (bK σ.mm.cs (bE σ.mm.nodes i).main) else _) σ.mm=_;rw[if_pos hs']
theorem jt(i0:Inv H σ)(hst:∀i,(σ.nd i).kind=2->bC σ (σ.ce (σ.nd i).main))(hH:H key<18446744073709551616->H key=h) :
  ∀(n:Nat) (i:Int) (w:List Nat) (g:Int) (n2:Nat),qU σ i w g->fT h w->12<=w.length+n->12<=w.length+n2 ->
  ∃f v d,FdQ σ (lE t h key K n i (w.length:Int)) (K (dM f v)) d/\w.length+d<=12/\FdV key (Ds σ.mm.nodes σ.mm.cs n2 i) f v /\
   ∀(n3:Nat) (a:Int) (lv:Nat) (way s:List Int) (q:List Pl×List Pr),Bb σ.mm.nodes σ.mm.cs n3 a lv i way s=some q->∃p∈q.1,p.lv+1=lv+d
 | 0,i,w,g,_,hi,_,hn,_=>by have:=(hi.E6 i0).2.2;omega
 | n+1,i,w,g,0,hi,_,_,hn=>by have:=(hi.E6 i0).2.2;omega
 | n+1,i,w,g,n2+1,hi,hu,hn,hn2=>by
  obtain⟨p,hp,hm⟩:=Mo i0 hi;have hs:=hst i hi.1.1;have ep:=xo hi.1.1 hs hp;have hwl:=(hi.E6 i0).2.2
  have hrd:∀{Q:Int->Tr} {R:Tr},Ct.eF (Q p) σ.mm=Ct.eF R σ.mm->FdQ σ (iM t i Q) R 1:=λ{Q R} e=>by obtain⟨h1,h2⟩:=aBd (t:=t) (K:=Q) hs;rw[<- ep] at h1;exact⟨h1.trans e,h2,Nat.le_refl 1⟩
  have hcol:Ds σ.mm.nodes σ.mm.cs (n2+1) i=qM (σ.nd p)++lK σ.mm.nodes (Ds σ.mm.nodes σ.mm.cs n2) (σ.nd p).xs:=by show(match gQ σ.mm.nodes σ.mm.cs i with|none=>_|some m=>_)=_;rw[hp]
  have hpl1:∀(n3:Nat) (a:Int) (lv:Nat) (way s:List Int) (q:List Pl×List Pr),Bb σ.mm.nodes σ.mm.cs n3 a lv i way s=some q->∃x∈q.1,x.lv+1=lv+1:=λ n3 a lv way s q hq=>by
   cases n3 with
   | zero=>cases hq
   | succ n3=>
    have hns:¬i∈s:=λ hx=>by rw[Bw hx] at hq;cases hq
    by_cases hk:(bE σ.mm.nodes p).kind=5∨(bE σ.mm.nodes p).kind=6;·rw[B3 hns hp hk] at hq;rw[<- Option.some.inj hq];exact⟨_,List.mem_singleton.2 rfl,rfl⟩
    ·rw[Qk hns hp hk] at hq;obtain⟨q',_,e⟩:=Option.map_eq_some_iff.1 hq;rw[<- e];exact⟨_,List.mem_cons_self ..,rfl⟩
  rw[hcol];have hb64:∀x∈qM (σ.nd p)++lK σ.mm.nodes (Ds σ.mm.nodes σ.mm.cs n2) (σ.nd p).xs,H x.1<18446744073709551616:=λ x hx=>((Ia i0 (n2+1) i w g hi).1 x (by rw[hcol];exact hx)).2;rcases hm.1 with h3|h5|h6
  ·have hc:=hm.rR i0 h3;have hw10:=hc.wl;have ho:qM (σ.nd p)=[]:=by unfold qM;rw[if_neg (by omega),if_neg (by omega)]
   rw[ho,List.nil_append] at hb64 ⊢;have hsl:eZ h (w.length:Int)=((sl h w.length:Nat):Int):=Ap hw10
   have hs64:sl h w.length<64:=by obtain⟨k,h1,h2⟩:=Po h (w.length:Int);rw[hsl] at h2;omega
   have hlk:=hc.lk hs64;have hat:∀x∈lK σ.mm.nodes (Ds σ.mm.nodes σ.mm.cs n2) (σ.nd p).xs,x.1=key->∃b,nW (σ.nd p).bm.toNat (σ.nd p).xs (sl h w.length)=some b/\x∈if(bE σ.mm.nodes b).kind=4 then [((bE σ.mm.nodes b).key,(bE σ.mm.nodes b).val)] else Ds σ.mm.nodes σ.mm.cs n2 b:=λ x hx ek=>by
    have hlt:=hb64 x hx;rw[ek] at hlt;have eh:=hH hlt;obtain⟨b,hb,hxb⟩:=Bf.1 hx
    rw[<- hc.lof] at hb;obtain⟨j,hj,hmj⟩:=Nc hb;have huj:fT h (w++[j]):=by
     rcases hc.br j hj b hmj with hb4|hb2;·rw[if_pos hb4.1] at hxb;rw[List.mem_singleton.1 hxb] at ek;have hlf:=i0.leaf (.inl hb4.1);have e:H (σ.nd b).key=(σ.nd b).hash.toNat:=hlf.ha;have ek':(σ.nd b).key=key:=ek;rw[ek',eh] at e;rw[e];exact hb4.2
     ·rw[if_neg (by rw[hb2.1];decide)] at hxb;have:=((Ia i0 n2 b (w++[j]) _ ⟨⟨hb2.1,hb2.2.1⟩,rfl⟩).1 x hxb).1;rw[ek,eh] at this;exact this
    have ej:sl h w.length=j:=by have:=huj w.length (by simp);rw[this];simp[iX]
    rw[ej];exact⟨b,hmj,hxb⟩
   have hin:∀b,nW (σ.nd p).bm.toNat (σ.nd p).xs (sl h w.length)=some b->b∈(σ.nd p).xs:=λ b hb=>by rw[<- hc.lof];exact Wf hs64 hb
   have hrun:∀{R:Tr},Ct.eF (match iU (σ.nd p) (eZ h (w.length:Int)) with
     | none=>K (dM false 0)
     | some b=>.node b λ s=>if s.kind=4 then(if s.key=key then K (dM true s.val) else K (dM false 0)) else lE t h key K n b ((w.length:Int)+1)) σ.mm=Ct.eF R σ.mm->FdQ σ (lE t h key K (n+1) i (w.length:Int)) R 1:=λ{R} e=>hrd (by
    rw[<- e]
    show Ct.eF (if(σ.nd p).kind=5 then _ else if(σ.nd p).kind=6 then _ else _) σ.mm=_
    rw[if_neg (by omega),if_neg (by omega)]
    rfl)
   rw[hsl,hlk] at hrun;cases hmo:nW (σ.nd p).bm.toNat (σ.nd p).xs (sl h w.length) with
   | none=>rw[hmo] at hrun;exact⟨false,0,1,hrun rfl,by omega,.inr ⟨rfl,rfl,λ x hx ek=>by obtain⟨b,hb,_⟩:=hat x hx ek;rw[hmo] at hb;cases hb⟩,hpl1⟩
   | some b=>
    rw[hmo] at hrun;have hbr:=hc.br _ hs64 b hmo;rcases hbr with hb4|hb2
    ·have hb4':(bE σ.mm.nodes b).kind=4:=hb4.1;by_cases hkk:(σ.nd b).key=key
     ·refine⟨true,(σ.nd b).val,1,hrun ?_,by omega,.inl ⟨rfl,Bf.2 ⟨b,hin b hmo,?_⟩⟩,hpl1⟩;·show Ct.eF (if(σ.nd b).kind=4 then(if(σ.nd b).key=key then _ else _) else _) σ.mm=_;rw[if_pos hb4.1,if_pos hkk]
      ·rw[if_pos hb4'];exact List.mem_singleton.2 (by rw[<- hkk])
     ·refine⟨false,0,1,hrun ?_,by omega,.inr ⟨rfl,rfl,λ x hx ek=>?_⟩,hpl1⟩;·show Ct.eF (if(σ.nd b).kind=4 then(if(σ.nd b).key=key then _ else _) else _) σ.mm=_;rw[if_pos hb4.1,if_neg hkk]
      ·obtain⟨b',hb',hx'⟩:=hat x hx ek;rw[hmo] at hb';rw[<- Option.some.inj hb',if_pos hb4'] at hx';rw[List.mem_singleton.1 hx'] at ek;exact hkk ek
    ·have hb2':¬(bE σ.mm.nodes b).kind=4:=by have h:=hb2.1;intro h4;rw[show(σ.nd b).kind=4 from h4] at h;cases h
     obtain⟨f,v,d,hq,hd,hv,hpl⟩:=jt i0 hst hH n b (w++[sl h w.length]) _ n2 ⟨⟨hb2.1,hb2.2.1⟩,rfl⟩ (rQ hu) E0x E0x;have hlen:(w++[sl h w.length]).length=w.length+1:=by rw[List.length_append,List.length_singleton]
     rw[hlen] at hq hd;have h1:=hrun (R:=lE t h key K n b ((w.length+1:Nat):Int)) (by show Ct.eF (if(σ.nd b).kind=4 then _ else lE t h key K n b ((w.length:Int)+1)) σ.mm=_;rw[if_neg hb2'];rfl);have hd1:=hq.d1;refine⟨f,v,d+1,⟨?_,?_,by omega⟩,by omega,?_,λ n3 a lv way s q hq=>?_⟩
     ·rw[show 2*(d+1)=2*1+2*d by omega,oH,h1.run];exact hq.run
     ·rw[show 2*(d+1)-1=2*1+(2*d-1) by omega,oH,h1.run];exact hq.lv
     ·rcases hv with⟨e1,e2⟩|⟨e1,e2,e3⟩;·exact .inl ⟨e1,Bf.2 ⟨b,hin b hmo,by rw[if_neg hb2'];exact e2⟩⟩
      ·refine .inr ⟨e1,e2,λ x hx ek=>?_⟩;obtain⟨b',hb',hx'⟩:=hat x hx ek;rw[hmo] at hb';rw[<- Option.some.inj hb',if_neg hb2'] at hx';exact e3 x hx' ek
     ·cases n3 with
      | zero=>cases hq
      | succ n3=>
       have hns:¬i∈s:=λ hx=>by rw[Bw hx] at hq;cases hq
       rw[Qk hns hp (by show ¬((σ.nd p).kind=5∨(σ.nd p).kind=6);omega)] at hq;obtain⟨q',hq',e⟩:=Option.map_eq_some_iff.1 hq;have hsub:∀(xs:List Int) (j:Nat) (s:List Int) (q':List Pl×List Pr),uY σ.mm.nodes (λ b w s=>Bb σ.mm.nodes σ.mm.cs n3 i (lv+1) b w s) way (rY (bE σ.mm.nodes p).bm.toNat 64) xs j s=some q'->b∈xs->∃x∈q'.1,x.lv+1=lv+1+d:=by
        intro xs;induction xs with
        | nil=>intro j s q' _ hb;cases hb
        | cons c xs ih=>
         intro j s q' hq' hb;simp only[uY] at hq';split at hq'
         ·rename_i hk4;obtain⟨q3,hq3,e3⟩:=Option.map_eq_some_iff.1 hq';rcases List.mem_cons.1 hb with rfl|hb;·exact absurd hk4 hb2'
          ·rw[<- e3];exact ih _ _ q3 hq3 hb
         ·split at hq'
          ·obtain⟨q3,hq3,e3⟩:=Option.bind_eq_some_iff.1 hq';obtain⟨q4,hq4,e4⟩:=Option.map_eq_some_iff.1 e3;rw[<- e4];rcases List.mem_cons.1 hb with rfl|hb;·obtain⟨x,hx,ex⟩:=hpl _ _ _ _ _ _ hq3;exact⟨x,List.mem_append_left _ hx,ex⟩
           ·obtain⟨x,hx,ex⟩:=ih _ _ _ hq4 hb;exact⟨x,List.mem_append_right _ hx,ex⟩
          ·cases hq'
       obtain⟨x,hx,ex⟩:=hsub _ _ _ _ hq' (hin b hmo);rw[<- e];exact⟨x,List.mem_cons_of_mem _ hx,by omega⟩
  ·have ho:qM (σ.nd p)=[((σ.nd p).key,(σ.nd p).val)]:=by unfold qM;rw[if_pos h5]
   rw[ho,hm.vg i0 (by omega)];have hL:[((σ.nd p).key,(σ.nd p).val)]++lK σ.mm.nodes (Ds σ.mm.nodes σ.mm.cs n2) []=[((σ.nd p).key,(σ.nd p).val)]:=rfl;rw[hL];by_cases hkk:(σ.nd p).key=key
   ·refine⟨true,(σ.nd p).val,1,hrd ?_,by omega,.inl ⟨rfl,by rw[<- hkk];exact List.mem_singleton.2 rfl⟩,hpl1⟩;show Ct.eF (if(σ.nd p).kind=5 then(if(σ.nd p).key=key then _ else _) else _) σ.mm=_;rw[if_pos h5,if_pos hkk]
   ·refine⟨false,0,1,hrd ?_,by omega,.inr ⟨rfl,rfl,λ x hx=>by rw[List.mem_singleton.1 hx];exact hkk⟩,hpl1⟩;show Ct.eF (if(σ.nd p).kind=5 then(if(σ.nd p).key=key then _ else _) else _) σ.mm=_;rw[if_pos h5,if_neg hkk]
  ·have ho:qM (σ.nd p)=(σ.nd p).ys:=by unfold qM;rw[if_neg (by omega),if_pos h6]
   rw[ho,hm.vg i0 (by omega)];have hL:(σ.nd p).ys++lK σ.mm.nodes (Ds σ.mm.nodes σ.mm.cs n2) []=(σ.nd p).ys:=List.append_nil _;rw[hL];have hln:=hm.Xb i0 h6;refine⟨(cL (σ.nd p).ys key).isSome,(cL (σ.nd p).ys key).getD 0,1,hrd ?_,by omega,by rw[Qq hln.sa];exact w6,hpl1⟩;show Ct.eF (if(σ.nd p).kind=5 then _ else if(σ.nd p).kind=6 then _ else _) σ.mm=_
   rw[if_neg (by omega),if_pos h6]
end
end
end Go.Proofs.YtbajmaoegmbfgaaGreat
namespace Go.Ct
open Go Go.RowKit
section
section
variable{P:Program}{S:List (Nat×Value)}{G:World->Prop}{d:Nat}{ty t t' e:TypeId}{pos:String}{af:Array Edge}{gd:Option (Nat×Bool)}{x y:Operand}{w0 w:World}{M:List Nat}{H:List (Nat×Obj)}{A F:Fr}{O:List Ow}{a:Option Addr}
theorem SF.aEF{b c sz:Nat}{cs:List Value}{T:TypeId}(h:SF w0 M ((b,.cells ⟨cs⟩ T (0,0))::H) A F O w)(hl:cs.length=c*sz):SF w0 M H A F (⟨some ⟨b,0,none⟩,cs,c,T,sz⟩::O) w:=by
 have hp:(Ks H (⟨some ⟨b,0,none⟩,cs,c,T,sz⟩::O)).Perm (Ks ((b,.cells ⟨cs⟩ T (0,0))::H) O):=by unfold Ks;simp only[List.flatMap_cons,iV,List.map_cons,List.cons_append,List.nil_append];exact List.perm_middle
 have hb:=h.st.has (b,.cells ⟨cs⟩ T (0,0)) (List.mem_cons_self ..);have hn:=h.st.new (b,.cells ⟨cs⟩ T (0,0)) (List.mem_cons_self ..);refine⟨h.st.sub (List.sublist_cons_self ..),λ f hf=>⟨(h.bS f hf).1,λ hc hm=>(h.bS f hf).2 hc (hp.mem_iff.1 hm)⟩,λ f hf=>⟨(h.new f hf).1,λ hc=>⟨λ hm=>((h.new f hf).2 hc).1 (hp.mem_iff.1 hm),((h.new f hf).2 hc).2⟩⟩,λ o ho=>?_,hp.nodup_iff.2 h.dis⟩;rcases List.mem_cons.1 ho with rfl|ho
 ·refine⟨.inr ⟨b,[],rfl,by simpa using hb,by simpa using hl⟩,λ k hk=>?_⟩;simp only[iV,List.mem_singleton] at hk;subst hk;exact hn.symm
 ·exact h.own o ho
theorem Qf{len:Nat}{parts:List (Nat×Operand)}{ps:List (Nat×Value)}{zc cs:List Value}{sz:Nat}(he:dX P t e zc)(hv:kE S parts=ps)(hlen:ps.length=len)(hidx:ps.map Prod.fst=List.range' 0 ps.length)(h1:(ps.all λ p=>Nat.beq (oE p.2).length zc.length)=true)
  (hpos:(Nat.blt 0 len&&Nat.blt 0 zc.length&&Nat.ble (len*zc.length) 16777216)=true) (hcs:Ey ps=cs) (hsz:cs.length=len*sz) :
  bG P S (SF w0 M H A F O) ⟨some d,.buildSlice t len ⟨parts⟩,ty,pos,af,gd⟩ Nat (λ b=>.slice (some ⟨b,0,none⟩) len len) (λ b=>SF w0 M H A F (⟨some ⟨b,0,none⟩,cs,len,e,sz⟩::O)) :=
 (gE λ _=>cW he hv hlen hidx h1 hpos hcs).conv λ b w h=>h.aEF hsz
end
end
section
structure Gy where
 ok:Bool
 l:List A2
 lp:Option Addr
 lc:Nat
 ps:List Pr
 pp:Option Addr
 pc:Nat
 sn:List Bool
 own:Bool
structure PlY where
 j:Nat
 tl:List A2
 lp:Option Addr
 lc:Nat
 ps:List Pr
 pp:Option Addr
 pc:Nat
 sn:List Bool
def Gy.pf(x:Gy):Fr:=if x.own=true then [(x.pp,dF x.ps)] else []
def Gy.fr(x:Gy):Fr:=(x.lp,rX x.l)::(Kl x.l.tail++x.pf)
def Vs(n:Nat)(vs:List Bool)(s:List Int):Prop:=dq (n+1) vs (s.map (· + 1))
theorem Vs.zero(n:Nat):Vs n (List.replicate (n+1) false) []:=dq.zero _
theorem ki{s:List Int}{k:Int}:k+1∈s.map (· + 1)↔k∈s:=by rw[List.mem_map];exact⟨λ⟨a,h,e⟩=>by rw[show k=a by omega];exact h,λ h=>⟨k,h,rfl⟩⟩
theorem Vs.mem{n k:Nat}{vs:List Bool}{s:List Int}(h:Vs n vs s)(hk:k<=n):vs.getD k false=true↔(k:Int)∈s:=by rw[h.2.1 k (by omega)];rw[show((k+1:Nat):Int)=(k:Int)+1 by omega];exact ki
theorem Vs.set{n k:Nat}{vs:List Bool}{s:List Int}(h:Vs n vs s)(hk:k<=n)(hf:vs.getD k false=false):Vs n (vs.set k true) (s++[(k:Int)]):=by have:=dq.set h (k:=k) (by omega) hf;unfold Vs;rw[List.map_append];exact this
theorem Vs.len{n:Nat}{vs:List Bool}{s:List Int}(h:Vs n vs s):s.length<=n+1:=by have:=dq.len h;rw[List.length_map] at this;exact this
def M5(L:List aQ)(B:Nat)(wp:Option Addr)(wc:Nat)(s:List Int)(o:Option (List Pl×List Pr))(x:Gy):Prop:=x.sn.length=L.length+1/\match o with
 | none=>x.ok=false
 | some q=>x.ok=true/\x.l.map A2.p=q.1/\x.ps=q.2/\(∃p tl,x.l=⟨p,wp,wc⟩::tl)/\(x.own=false->(x.pp,dF x.ps)∈aN L)/\Vs L.length x.sn (s++q.1.map Pl.i)/\x.ps.length<=x.l.length*(B+64)
variable{B wc lv:Nat}{wp:Option Addr}{s way:List Int}{i a:Int}{x:Gy}
theorem M5.one{L:List aQ}{lp pp:Option Addr}{lc pc:Nat}{r:Int}{sn:List Bool}{ps:List Pr}{own:Bool}{o:Option (List Pl×List Pr)}(h1:sn.length=L.length+1)(he:o=some ([⟨i,r,a,lv,way⟩],ps))(hf:own=false->(pp,dF ps)∈aN L)(hv:Vs L.length sn (s++[i]))(hb:ps.length<=B+64) :
  M5 L B wp wc s o ⟨true,[⟨⟨i,r,a,lv,way⟩,wp,wc⟩],lp,lc,ps,pp,pc,sn,own⟩:=⟨h1,by rw[he];exact⟨rfl,rfl,rfl,⟨_,_,rfl⟩,hf,hv,by simpa using hb⟩⟩
theorem M5.yes{L:List aQ}{o:Option (List Pl×List Pr)}(h:M5 L B wp wc s o x)(hk:x.ok=true):∃q,o=some q/\x.l.map A2.p=q.1/\x.ps=q.2/\(∃p tl,x.l=⟨p,wp,wc⟩::tl)/\(x.own=false->(x.pp,dF x.ps)∈aN L)/\Vs L.length x.sn (s++q.1.map Pl.i)/\x.ps.length<=x.l.length*(B+64):=by
 cases o with
 | none=>have:=h.2;rw[hk] at this;cases this
 | some q=>exact⟨q,rfl,h.2.2⟩
theorem M5.aEo{L:List aQ}{o:Option (List Pl×List Pr)}(h:M5 L B wp wc s o x)(hk:x.ok=false):o=none:=by
 cases o with
 | none=>rfl
 | some q=>have:=h.2.1;rw[hk] at this;cases this
theorem M5.no{L:List aQ}{o:Option (List Pl×List Pr)}(e:o=none)(h1:x.sn.length=L.length+1)(h2:x.ok=false):M5 L B wp wc s o x:=⟨h1,by rw[e];exact h2⟩
theorem Gy.fin{L:List aQ}{A F:Fr}{O:List Ow}(h:x.own=false->(x.pp,dF x.ps)∈aN L)(hF:∀f∈x.fr,f∈F)(hA:∀f∈aN L,f∈A):sD A F O x.pp (dF x.ps):=by
 cases ho:x.own with
 | true=>exact .new (Aw.pW (hF _ (List.mem_cons_of_mem _ (List.mem_append_right _ (by unfold Gy.pf;rw[if_pos ho];exact List.mem_cons_self ..)))))
 | false=>exact .bS (Aw.pW (hA _ (h ho)))
theorem ll{N:List Nv}{cs:List Int}{n:Nat}{q:List Pl×List Pr}(h:Bb N cs n a lv i way s=some q):∃m t,q.1=⟨i,m,a,lv,way⟩::t:=by
 cases n with
 | zero=>cases h
 | succ n=>
  unfold Bb at h;split at h;·cases h
  obtain⟨m,_,h⟩:=Option.bind_eq_some_iff.1 h;split at h;·cases h;exact⟨m,[],rfl⟩
  ·obtain⟨t,_,h⟩:=Option.map_eq_some_iff.1 h;subst h;exact⟨m,t.1,rfl⟩
def Few(L:List aQ)(B:Nat):Prop:=(∀r,(aB L r).ys.length<=B/\(aB L r).xs.length<=64)/\(L.length+1)*(B+64)<=549755813888
end
end Go.Ct
namespace Go.Proofs.YtbajmaoegmbfgaaGreat
open Go.Proofs.Tryz
open Go Go.RowKit Go.Ct
section
section
variable{L:List aQ}{cs:List Int}{gen:Int}{pn pc:Option Addr}{cn cc:Nat}{w:World}
theorem Hl:dX prog 115 39 [.int .i64 0,.int .i64 0,.int .i64 0,.int .i64 0,.slice none 0 0]:=lU (z:=.agg ⟨[.int .i64 0,.int .i64 0,.int .i64 0,.int .i64 0,.slice none 0 0]⟩) (by kernel_rfl) (by kernel_rfl) rfl
abbrev yi(L:List aQ)(pv:Nat)(sn:List Bool):Ow:=⟨some ⟨pv,0,none⟩,jY sn,L.length+1,4,1⟩
def aAI(L:List aQ)(cs:List Int)(gen:Int)(pn:Option Addr)(cn:Nat)(pc:Option Addr)(cc:Nat)(B pv:Nat)(n:Nat):Prop:=∀(lv:Nat),lv+n=12->∀(k:Nat) (a mm:Int) (way:List Int) (wp:Option Addr) (wc:Nat) (s:List Int) (sn:List Bool) (D:List Nat) (w:World),k<L.length->way.length=lv->way.length<=wc->Vs L.length sn s->SF w D [] ((pn,iH L)::(pc,aH cs)::(wp,aH way)::aN L) [] [yi L pv sn] w ->
  Calls prog 116 #[Mf L cs gen pn cn pc cc,.agg ⟨[.int .i64 ((k+1:Nat):Int),.int .i64 mm,.int .i64 a,.int .i64 ((lv:Nat):Int),.slice wp way.length wc]⟩,.slice (some ⟨pv,0,none⟩) (L.length+1) (L.length+1)] w λ e w'=>∃x:Gy,e=.returned (.tuple #[.slice x.lp x.l.length x.lc,.slice x.pp x.ps.length x.pc,.bool x.ok])/\M5 L B wp wc s (Bb (L.map aQ.c) cs n a lv ((k+1:Nat):Int) way s) x/\SF w D [] [] x.fr [yi L pv x.sn] w'
variable{B wc lc:Nat}{way ix s:List Int}{y:PlY}{x:Gy}{pp lp wp ip:Option Addr}
theorem Zp(h0:Fits L)(hb:StB L cs)(hl:L.length<=274877906944)(hc:cs.length<=274877906944)(B pv:Nat)(n lv:Nat)(hn:lv+n=12)(k:Nat)(a mm:Int)(way:List Int)(wp:Option Addr)(wc:Nat)(s:List Int)(sn:List Bool)(D:List Nat)(w:World)(hk:k<L.length)(hv:Vs L.length sn s)(hno:(gQ (L.map aQ.c) cs ((k+1:Nat):Int)).isSome=false∨n=0∨((k+1:Nat):Int)∈s)(hs:SF w D [] ((pn,iH L)::(pc,aH cs)::(wp,aH way)::aN L) [] [yi L pv sn] w) :
  Calls prog 116 #[Mf L cs gen pn cn pc cc,.agg ⟨[.int .i64 ((k+1:Nat):Int),.int .i64 mm,.int .i64 a,.int .i64 ((lv:Nat):Int),.slice wp way.length wc]⟩,.slice (some ⟨pv,0,none⟩) (L.length+1) (L.length+1)] w λ e w'=>∃x:Gy,e=.returned (.tuple #[.slice x.lp x.l.length x.lc,.slice x.pp x.ps.length x.pc,.bool x.ok])/\M5 L B wp wc s (Bb (L.map aQ.c) cs n a lv ((k+1:Nat):Int) way s) x/\SF w D [] [] x.fr [yi L pv x.sn] w':=by
 have hvl:sn.length=L.length+1:=hv.1;have hno2:(gQ (L.map aQ.c) cs ((k+1:Nat):Int)).isSome=false∨n=0∨sn.getD (k+1) false=true:=by
  rcases hno with h|h|h;·exact .inl h
  ·exact .inr (.inl h)
  ·exact .inr (.inr ((hv.mem (k:=k+1) (by omega)).2 h))
 have hplc:Bb (L.map aQ.c) cs n a lv ((k+1:Nat):Int) way s=none:=by
  rcases hno with h|h|h;·exact S4 h
  ·subst h;exact rfl
  ·exact Bw h
 rw[hplc];refine enter func116 ntmps116 rfl rfl hs ?_;simp only[cC];simp only[Mf];refine K1m ?_;intro x3;refine bJ (λ x4=>?_);refine jC (λ _=>?_);refine J8 ?_;refine nJ ?_;refine J3 ?_;refine aP (cV (hc:=λ w1 hw=>Wq (hw.Fe (.inr (.inl (.head _))) (.inr (.inl (.tail _ (.head _)))) (λ f hf=>.inr (.inl (.tail _ (.tail _ (.tail _ hf))))) h0) hb hl hc ((k+1:Nat):Int) (by omega))) (λ x22=>?_);refine Kb8 ?_;refine Cr ?_;(refine eE 27 (λ g27=>?_) (λ g27=>?_)<;>refine Ka1 ?_);all_goals (refine Ka2 ?_;refine B7 ?_;refine aA ?_)
 all_goals (first|refine aI ?_|(refine eE 32 (λ g32=>?_) (λ g32=>?_)<;>refine Ka0 ?_))
 all_goals (refine J6 ?_;(first|refine aI ?_|(refine aF ?_;refine aC (oT (k:=k+1) rf rf gS fW fin (by omega) (by omega)) rfl ?_));(first|refine aI ?_|(refine aF ?_;refine aC (Br (q:=k+1) rf fW fin (by omega)) rfl ?_));refine Kd8 ?_)
 all_goals
 refine bD (λ c38=>?_) (λ c38=>?_)
 ·all_goals try (first|(exact abt)|(exfalso;omega))
  all_goals (refine J0 ?_;refine jC (λ _=>?_);refine J8 ?_)
  all_goals refine aZ results116 (λ w hw=>?_);exact⟨⟨false,[],none,0,[],none,0,sn,false⟩,rfl,⟨hvl,rfl⟩,(hw.eY (F':=[(none,rX [])]) E0u).bB⟩
 ·try exact nv c38
  all_goals (exfalso;(rcases hno2 with h|h|h);(rw[h] at g27;cases g27);(exfalso;omega);(rw[h] at c38;cases c38))
theorem aAH{L:List aQ}{f:Int->List Int->List Int->Option (List Pl×List Pr)}{xs:List Int}{q:Nat}{qq:List Pl×List Pr}{p1 p2:Option Addr}{c1 c2:Nat}(h1:Bu (L.map aQ.c) f way ix xs s y.j (y.tl.map A2.p) y.ps)(hjl:y.j<xs.length)(hj:xs.getD y.j 0=((q+1:Nat):Int))(hkd:(bE (L.map aQ.c) ((q+1:Nat):Int)).kind=2)(hq1:f ((q+1:Nat):Int) (way++[ix.getD y.j 0]) (s++(y.tl.map A2.p).map Pl.i)=some qq)(e1:x.l.map A2.p=qq.1)(e2:x.ps=qq.2)(e5:Vs L.length x.sn ((s++(y.tl.map A2.p).map Pl.i)++qq.1.map Pl.i))(e6:x.ps.length<=x.l.length*(B+64))(hb:y.ps.length+(64-y.j)<=(y.tl.length+1)*(B+64)) :
  (⟨y.j+1,y.tl++x.l,p1,c1,y.ps++x.ps,p2,c2,x.sn⟩:PlY).j<=xs.length/\Bu (L.map aQ.c) f way ix xs s (y.j+1) ((y.tl++x.l).map A2.p) (y.ps++x.ps)/\Vs L.length x.sn (s++((y.tl++x.l).map A2.p).map Pl.i)/\(y.ps++x.ps).length+(64-(y.j+1))<=((y.tl++x.l).length+1)*(B+64):=by
 refine⟨hjl,?_,?_,?_⟩;·have:=Bu.inner h1 hjl (by rw[hj];exact hkd) (by rw[hj];exact hq1);rw[List.map_append,e1,e2];exact this
 ·rw[List.map_append,List.map_append,e1,<- List.append_assoc];exact e5
 ·rw[List.length_append,List.length_append,show y.tl.length+x.l.length+1=(y.tl.length+1)+x.l.length by omega,Nat.add_mul];omega
theorem Rb(a b:List A2):Kl (a++b)=Kl a++Kl b:=by simp[Kl]
theorem aA3{w0 w:World}{M:List Nat}{H:List (Nat×Obj)}{A:Fr}{T T2 T3:TypeId}{kp kl:Nat}{psC:List Value}{wy:List Int}{hd:A2}{tl t0:List A2}{p0:Pl}{sw:Ow}{b:Nat×Obj}(hw:SF w0 M (b::H) A (x.fr++(ip,aH ix)::Kl tl) [⟨wp,aH wy,wc,T,1⟩,⟨pp,psC,kp,T2,2⟩,⟨lp,rX (hd::tl)++rX x.l,kl,T3,5⟩,sw] w)(e3:x.l=⟨p0,wp,wc⟩::t0)(e8:p0.way=wy) :
  SF w0 M H A ((ip,aH ix)::Kl (tl++x.l)) [⟨pp,psC,kp,T2,2⟩,⟨lp,rX (hd::(tl++x.l)),kl,T3,5⟩,sw] w:=by
 rw[<- List.cons_append,Q4];refine SF.back (SF.eY (F':=(ip,aH ix)::Kl (tl++x.l)) (hw.freeze .head) λ f hf=>?_) (hH:=List.sublist_cons_self ..) (hF:=bA.all);rw[Rb] at hf;rcases List.mem_cons.1 hf with rfl|hf
 ·exact .inr (.tail _ (List.mem_append_right _ (.head _)))
 rcases List.mem_append.1 hf with hf|hf;·exact .inr (.tail _ (List.mem_append_right _ (.tail _ hf)))
 ·rw[e3] at hf;rcases List.mem_cons.1 hf with rfl|hf;·show aH p0.way=[]∨(wp,aH p0.way)∈_;rw[e8];exact .inr (.head _)
  ·refine .inr (.tail _ (List.mem_append_left _ (.tail _ (List.mem_append_left _ ?_))));rw[e3];exact hf
theorem aCo{L:List aQ}{pc:Nat}{i r a:Int}{lv:Nat}{o:Option (List Pl×List Pr)}(h:Vs L.length y.sn ((s++[i])++(y.tl.map A2.p).map Pl.i))(ho:o=some (⟨i,r,a,lv,way⟩::y.tl.map A2.p,y.ps))(hb:y.ps.length+(64-y.j)<=(y.tl.length+1)*(B+64)) :
  M5 L B wp wc s o ⟨true,⟨⟨i,r,a,lv,way⟩,wp,wc⟩::y.tl,lp,lc,y.ps,pp,pc,y.sn,true⟩:=by
 refine⟨h.1,?_⟩;rw[ho];refine⟨rfl,rfl,rfl,⟨_,_,rfl⟩,(λ e=>nomatch e),?_,?_⟩;·rw[List.append_assoc] at h;exact h
 ·show y.ps.length<=(y.tl.length+1)*(B+64);omega
theorem aDn{pc:Nat}{ix:List Value}{p:Pl}{ps:List Pr}{sn:List Bool}(tl:List A2):∀f∈(⟨true,⟨p,wp,wc⟩::tl,lp,lc,ps,pp,pc,sn,true⟩:Gy).fr,f.2=[]∨f∈(lp,rX (⟨p,wp,wc⟩::tl))::(pp,dF ps)::(ip,ix)::Kl tl:=by
 intro f hf;rcases List.mem_cons.1 hf with rfl|hf;·exact .inr (.head _)
 rcases List.mem_append.1 hf with hf|hf;·exact .inr (.tail _ (.tail _ (.tail _ hf)))
 ·rw[show(⟨true,⟨p,wp,wc⟩::tl,lp,lc,ps,pp,pc,sn,true⟩:Gy).pf=[(pp,dF ps)] from rfl] at hf;rw[List.mem_singleton.1 hf];exact .inr (.tail _ (.head _))
set_option maxRecDepth 100000 in
set_option maxHeartbeats 2000000 in
theorem Lg(h0:Fits L)(hb:StB L cs)(hl:L.length<=274877906944)(hc:cs.length<=274877906944)(hbm:∀r,∃b:Nat,b<18446744073709551616/\(aB L r).nd.bm=(b:Int)/\((aB L r).nd.kind=3->(aB L r).xs.length=fQ b 64))(B pv:Nat)(hB:Few L B)(n:Nat)(ih:∀m,n=m+1->aAI L cs gen pn cn pc cc B pv m):aAI L cs gen pn cn pc cc B pv n:=by
 intro lv hn k a mm way wp wc s sn D w hk hwl hwc hv hs;have hvl:sn.length=L.length+1:=hv.1;have hvn:=hv.len;by_cases hno:(gQ (L.map aQ.c) cs ((k+1:Nat):Int)).isSome=false∨n=0∨((k+1:Nat):Int)∈s
 ·exact Zp h0 hb hl hc B pv n lv hn k a mm way wp wc s sn D w hk hv hno hs
 simp only[not_or] at hno;obtain⟨hb1,hn0,hnot⟩:=hno;obtain⟨r,hr⟩:=Option.isSome_iff_exists.1 (show(gQ (L.map aQ.c) cs ((k+1:Nat):Int)).isSome=true by cases h:(gQ (L.map aQ.c) cs ((k+1:Nat):Int)).isSome<;>simp_all);obtain⟨m,rfl⟩:∃m,n=m+1:=⟨n-1,by omega⟩;have hnf:sn.getD (k+1) false=false:=by
  cases h:sn.getD (k+1) false with
  | false=>rfl
  | true=>exact absurd ((hv.mem (k:=k+1) (by omega)).1 h) hnot
 have hv2:=hv.set (k:=k+1) (by omega) hnf;have hfr:=yK h0 r;have hri:=az (K8 hr).2;rw[List.length_map] at hri;have hrr:r<=9223372036854775807:=by omega
 have hbn:=hfr.brN;have hbs:=hfr.brS;have hpn:=hfr.prN;have hfm:=w8 hri;have hfp:=tz hri;have hbr:=hb.br r;have hB1:=(hB.1 r).1;have hB2:=(hB.1 r).2;obtain⟨bt,hbt,hbe,hbl⟩:=hbm r
 obtain⟨ix,hix⟩:∃ix,ix=rY bt 64:=⟨_,rfl⟩;have hpl:¬(aB L r).nd.kind=5->¬(aB L r).nd.kind=6->Bb (L.map aQ.c) cs (m+1) a lv ((k+1:Nat):Int) way s=(uY (L.map aQ.c) (λ b w s=>Bb (L.map aQ.c) cs m ((k+1:Nat):Int) (lv+1) b w s) way ix (aB L r).xs 0 (s++[((k+1:Nat):Int)])).map λ q=>(⟨((k+1:Nat):Int),r,a,lv,way⟩::q.1,q.2):=by intro h5 h6;rw[Qk hnot hr (by rw[dH];exact λ h=>h.elim h5 h6),qo];rw[dH,show(aB L r).c.bm=(bt:Int) from hbe,Int.toNat_natCast,<- hix]
 have hv3:=hv2.len;refine enter func116 ntmps116 rfl rfl (hs.T6 (a':=(aB L r).nd.brA) (cs':=aH (aB L r).xs) (.bS (.tail (.tail (.tail (Aw.pW hfm))))) (λ _=>rfl) (λ h=>h) (λ w h=>h)) ?_;simp only[cC]
 simp only[Mf];refine K1m ?_;intro x3;refine bJ (λ x4=>?_);refine jC (λ _=>?_);refine J8 ?_;refine nJ ?_;refine J3 ?_;refine aP (cV (hc:=λ w1 hw=>by have:=Wq (gen:=gen) (cn:=cn) (cc:=cc) (hw.Fe (.inr (.inl (.tail _ (.head _)))) (.inr (.inl (.tail _ (.tail _ (.head _))))) (λ f hf=>.inr (.inl (.tail _ (.tail _ (.tail _ (.tail _ hf)))))) h0) hb hl hc ((k+1:Nat):Int) (by omega);rw[hr] at this;exact this)) (λ x22=>?_);refine Kb8 ?_;refine Cr ?_;(refine aF ?_;refine aE ?_);((refine aF ?_;refine bO ?_));refine B7 ?_;refine aA ?_;(refine eE 32 (λ g32=>?_) (λ g32=>?_)<;>(try ((exfalso;omega)))<;>((refine Ka3 ?_)));refine J6 ?_;((refine aF ?_;refine aC (oT (k:=k+1) rf rf gS fW fin (by omega) (by omega)) rfl ?_));((refine aF ?_;refine aC (Br (q:=k+1) rf fW fin (by omega)) rfl ?_));refine Kd8 ?_;refine bD (λ c38=>?_) (λ c38=>?_)
 ·try (first|(exact abt)|(exfalso;omega))
  (exfalso;simp_all)
 ·try (first|(exact abt)|(exfalso;omega))
  refine Kb3 ?_;refine J3 ?_;refine aC (oT (k:=k+1) rf rf gS fW fin (by omega) (by omega)) rfl ?_;refine J5 ?_;refine J2 ?_;refine vO ?_;refine nJ ?_;refine aP (Qf (sz:=5) (cs:=rX [⟨⟨((k+1:Nat):Int),r,a,lv,way⟩,wp,wc⟩]) Hl Kg rf rf rf rf rf rf) (λ x46=>?_);refine J1 ?_;refine E4 ?_;refine aP (cV (hc:=λ w1 hw=>rK (hw.Fe (.inr (.inl (.tail _ (.head _)))) (.inr (.inl (.tail _ (.tail _ (.head _))))) (λ f hf=>.inr (.inl (.tail _ (.tail _ (.tail _ (.tail _ hf)))))) h0) r (by omega) hl)) (λ x49=>?_);refine aJ (λ x10=>?_);refine J5 ?_;refine K2f ?_;refine bD (λ c52=>?_) (λ c52=>?_)
  ·try (first|(exact abt)|(exfalso;omega))
   refine aT ?_;refine Nq [6,7,8,54,55,56,57,58,59,60] (λ z:Nat=>[(6,.slice (some ⟨x46,0,none⟩) 1 1),(60,.slice (some ⟨z,0,none⟩) 1 1),(7,.slice (some ⟨z,0,none⟩) 1 1),(8,.bool true)]) (λ z=>True) (λ _=>[]) (λ z=>[(some ⟨z,0,none⟩,dF [((aB L r).nd.key,(aB L r).nd.val)])]) (λ _=>[]) (by decide) (λ _=>by exact rfl) (λ _=>by simp only[List.nil_append,List.cons_append];exact rfl) (λ _=>by simp only[List.nil_append,List.cons_append];exact rfl) (λ _=>by simp only[List.nil_append,List.cons_append];exact rfl) ?_ (λ z f hx=>?_)
   ·refine gO (.one 0 [] (.one 1 [] (.one 2 [] (.one 3 [] (.one 4 [] (.one 5 [] (.two 6 [] (.one 7 [2,4] (.one 8 [] (.one 9 [] .nil))) 0 [] (.two 7 [2,4] (.one 6 [] (.one 8 [] (.one 9 [] .nil))) 0 [] .nil)))))))) ?_;refine aV ?_;refine mE ?_;refine mE ?_;refine gM ?_;refine gL (E:=[6,7]) (by decide +kernel) ((.cons ?_ (.cons ?_ .nil)));·refine nF (i:=6) (h:=λ x60=>?_);refine qN (h:=λ _=>?_);refine Pa ?_;refine fC (x60) ?_;·trivial
    ·refine cy (i:=7) (h:=λ _=>?_);refine cE (h:=λ x60=>?_);refine Pa ?_;refine fC (x60) ?_;·trivial
   refine K0a ?_;refine aZ results116 (λ w hw=>?_);have hk5:(bE (L.map aQ.c) r).kind=5:=by rw[dH];exact c52
   have ho:qM (aB L r).c=[((aB L r).nd.key,(aB L r).nd.val)]:=if_pos c52;refine⟨⟨true,[⟨⟨((k+1:Nat):Int),r,a,lv,way⟩,wp,wc⟩],some ⟨x46,0,none⟩,1,[((aB L r).nd.key,(aB L r).nd.val)],some ⟨z,0,none⟩,1,sn.set (k+1) true,true⟩,rfl,M5.one (by rw[List.length_set];exact hvl) ((B3 hnot hr (.inl hk5)).trans (by rw[dH,ho])) (λ e=>nomatch e) hv2 (by simp only[List.length_cons,List.length_nil];omega),?_⟩;exact(show SF _ D [] [] [(some ⟨x46,0,none⟩,rX [⟨⟨((k+1:Nat):Int),r,a,lv,way⟩,wp,wc⟩]),(some ⟨z,0,none⟩,dF [((aB L r).nd.key,(aB L r).nd.val)])] [yi L pv (sn.set (k+1) true)] _ from(hw.freeze .head).bB)
  ·try (first|(exact abt)|(exfalso;omega))
   refine lP ?_;refine bD (λ c61=>?_) (λ c61=>?_)
   ·try (first|(exact abt)|(exfalso;omega))
    refine aT ?_;refine eI [(0,[]),(1,[]),(2,[]),(3,[2]),(4,[]),(5,[])] ?_;refine aV ?_;refine mE ?_;refine qN (h:=λ _=>?_);refine Pa ?_;refine aZ results116 (λ w hw=>?_);have hk6:(bE (L.map aQ.c) r).kind=6:=by rw[dH];exact c61
    have ho:qM (aB L r).c=(aB L r).ys:=(if_neg (show ¬(aB L r).nd.kind=5 from c52)).trans (if_pos c61);refine⟨⟨true,[⟨⟨((k+1:Nat):Int),r,a,lv,way⟩,wp,wc⟩],some ⟨x46,0,none⟩,1,(aB L r).ys,(aB L r).nd.prA,(aB L r).nd.dF,sn.set (k+1) true,false⟩,by rw[hpn];exact rfl,M5.one (by rw[List.length_set];exact hvl) ((B3 hnot hr (.inr hk6)).trans (by rw[dH,ho])) (λ _=>hfp) hv2 (by omega),?_⟩;exact(show SF _ D [] [] [(some ⟨x46,0,none⟩,rX [⟨⟨((k+1:Nat):Int),r,a,lv,way⟩,wp,wc⟩])] [yi L pv (sn.set (k+1) true)] _ from(hw.freeze .head).bB)
   ·try (first|(exact abt)|(exfalso;omega))
    refine pE ?_;refine iE ?_;refine aD (cF (hc:=λ w1 hw=>Jz hix hbt hbe w1)) (λ x68 h68=>?_);refine jG ?_;refine Fq ?_;refine mN [6,7,8,12,13,14,15,16,17,69,70,71,72,73,74,75,76,77,78,79,80,81,82,83,84,85,86,87,88,89,90,91,92,93,94,95,96,97,98,99,100,101,102,103,104,105,106,107,108,109,110,111,112,113,114,115,116,117,118,119,120,121,122,123,124,125,126,127,128,129,130,131,132,133] (λ y:PlY=>[(6,.slice y.lp (y.tl.length+1) y.lc),(7,.slice y.pp y.ps.length y.pc),(12,.int .i64 ((y.j:Nat):Int))]) (λ y=>y.j<=(aB L r).xs.length/\Bu (L.map aQ.c) (λ b w s=>Bb (L.map aQ.c) cs m ((k+1:Nat):Int) (lv+1) b w s) way ix (aB L r).xs (s++[((k+1:Nat):Int)]) y.j (y.tl.map A2.p) y.ps/\Vs L.length y.sn ((s++[((k+1:Nat):Int)])++(y.tl.map A2.p).map Pl.i)/\y.ps.length+(64-y.j)<=(y.tl.length+1)*(B+64)) (λ y=>[(x10,.cells ⟨(aB L r).nd.cells⟩ 47 (0,0)),(x4,.cells ⟨[.int .i64 ((k+1:Nat):Int),.int .i64 r,.int .i64 a,.int .i64 ((lv:Nat):Int),.slice wp way.length wc]⟩ 39 (0,0)),(x3,.cells ⟨[.slice pn L.length cn,.slice pc cs.length cc,.int .i64 gen]⟩ 52 (0,0))]) (λ y=>(x68.1,aH ix)::Kl y.tl) (λ y=>[⟨y.pp,dF y.ps,y.pc,164,2⟩,⟨y.lp,rX (⟨⟨((k+1:Nat):Int),r,a,lv,way⟩,wp,wc⟩::y.tl),y.lc,39,5⟩,yi L pv y.sn]) (λ y=>(aB L r).xs.length-y.j) (⟨0,[],some ⟨x46,0,none⟩,1,[],none,0,sn.set (k+1) true⟩) (⟨Nat.zero_le _,Bu.zero,by simpa using hv2,by simp⟩) (λ y f hx=>?_) (hw0:=λ w hw=>(hw.kQ 164 2).back);refine K0a ?_;have hy:=hx;refine jS ?_;refine Pb ?_;refine wF ?_;refine bD (λ c73=>?_) (λ c73=>?_)
    ·try (first|(exact abt)|(exfalso;omega))
     have hbk:(aB L r).xs.getD y.j 0<=9223372036854775807:=hbr _ (by rw[iX,List.getElem?_eq_getElem (by omega)];exact List.getElem_mem _);have hk3:(aB L r).nd.kind=3:=by
      have:=(K8 hr).2;rw[dH] at this;rcases this with h|h|h
      ·exact h
      ·exact absurd h c52
      ·exact absurd h c61
     have hil:ix.length=(aB L r).xs.length:=by rw[hix,G9,hbl hk3]
     have hjl:y.j<(aB L r).xs.length:=by omega
     have hlen0:=hy.2.2.1.len;simp only[List.length_append,List.length_map,List.length_cons,List.length_nil] at hlen0;have hmul:(y.tl.length+1)*(B+64)<=549755813888:=Nat.le_trans (Nat.mul_le_mul_right _ (by omega)) hB.2;have hbnd:=hy.2.2.2;refine rT ?_;refine aT ?_;refine Nq [13,76,77,78,79,80,81,82] (λ z:Nat=>[(82,(aB L ((aB L r).xs.getD y.j 0)).nd.v),(13,.pointer (some ⟨z,0,none⟩))]) (λ z=>True) (λ z=>[(z,.cells ⟨(aB L ((aB L r).xs.getD y.j 0)).nd.cells⟩ 47 (0,0))]) (λ _=>[]) (λ _=>[]) (by decide) (λ _=>by exact rfl) (λ _=>by simp only[List.nil_append,List.cons_append];exact rfl) (λ _=>by simp only[List.nil_append,List.cons_append];exact rfl) (λ _=>by simp only[List.nil_append,List.cons_append];exact rfl) ?_ (λ z f hx=>?_)
     ·refine gO (.one 0 [] (.one 1 [] (.one 2 [] (.one 3 [] (.one 4 [] (.one 5 [] (.two 6 [] (.one 7 [0,2,4,5] (.one 8 [] .nil)) 0 [] (.two 7 [0,2,4,5] (.one 6 [] (.one 8 [] .nil)) 0 [] .nil)))))))) ?_;refine bV ?_;refine Ke0 ?_;refine Pe ?_;refine gL (E:=[6,7]) (by decide +kernel) ((.cons ?_ (.cons ?_ .nil)));·refine Bd (i:=6) (hq:=(cV (hc:=λ w1 hw=>rK (hw.Fe (.inr (.inl (.tail _ (.head _)))) (.inr (.inl (.tail _ (.tail _ (.head _))))) (λ f hf=>.inr (.inl (.tail _ (.tail _ (.tail _ (.tail _ hf)))))) h0) ((aB L r).xs.getD y.j 0) (by omega) hl))) (h:=λ x82=>?_);refine iP (hfire:=E0p) (h:=λ x13=>?_);refine An ?_;refine fC (x13) ?_ (hw1:=λ w hw=>hw.v6);·trivial
      ·refine iL (i:=7) (hfire:=E0p) (h:=λ x13=>?_);refine dB (i:=6) (hq:=(cV (hc:=λ w1 hw=>rK (hw.Fe (.inr (.inl (.tail _ (.head _)))) (.inr (.inl (.tail _ (.tail _ (.head _))))) (λ f hf=>.inr (.inl (.tail _ (.tail _ (.tail _ (.tail _ hf)))))) h0) ((aB L r).xs.getD y.j 0) (by omega) hl))) (h:=λ x82=>?_);refine An ?_;refine fC (x13) ?_ (hw1:=λ w hw=>hw.v6);·trivial
     refine K0a ?_;refine Kd1 ?_;refine bD (λ c85=>?_) (λ c85=>?_)
     ·try (first|(exact abt)|(exfalso;omega))
      refine J2 ?_;refine Kd2 ?_;refine bM ?_;refine fJ (λ x92=>?_);(refine fF (λ x93=>?_);try (refine eP (λ h93=>?_)));refine J1 ?_;refine K1t ?_;refine vF ?_;refine lR ((by exact⟨y.j+1,y.tl,y.lp,y.lc,y.ps++[((aB L ((aB L r).xs.getD y.j 0)).nd.key,(aB L ((aB L r).xs.getD y.j 0)).nd.val)],x93.1,x93.2,y.sn⟩)) ?_ ?_ E0d ?_ (λ w hw=>by exact hw.back (hF:=E0n));·(simp only[];omega)
      ·repeat' (first|exact bF _|refine aX ?_ ?_)
       all_goals (first|exact rfl|(conv=>{lhs;whnf};simp;done))
      ·(exact⟨by show y.j+1<=_;omega,by have:=Bu.single hy.2.1 hjl (by rw[dH];exact c85);rw[dH] at this;exact this,hy.2.2.1,by show(y.ps++[_]).length+(64-(y.j+1))<=(y.tl.length+1)*(B+64);rw[List.length_append,List.length_singleton];omega⟩)
     ·try (first|(exact abt)|(exfalso;omega))
      refine lB ?_;refine iE ?_;refine Kc5 ?_;refine bD (λ c96=>?_) (λ c96=>?_)
      ·try (first|(exact abt)|(exfalso;omega))
       refine J0 ?_;refine jC (λ _=>?_);refine J8 ?_;refine aZ results116 (λ w hw=>?_);exact⟨⟨false,[],none,0,[],none,0,y.sn,false⟩,rfl,M5.no ((hpl c52 c61).trans (by rw[Bu.bad hy.2.1 hjl (by rw[dH];exact c85) (by rw[dH];exact c96)];rfl)) hy.2.2.1.1 rfl,(hw.eY (F':=[(none,rX [])]) E0u).bB (hO:=.cons _ (.cons _ (List.Sublist.refl _)))⟩
      ·try (first|(exact abt)|(exfalso;omega))
       obtain⟨q,hj,hq⟩:∃q:Nat,(aB L r).xs.getD y.j 0=((q+1:Nat):Int)/\q<L.length:=by have:=eU (N:=L.map aQ.c) (i:=(aB L r).xs.getD y.j 0) (by rw[dH];show(aB L ((aB L r).xs.getD y.j 0)).nd.kind≠0;omega);rw[List.length_map] at this;exact⟨((aB L r).xs.getD y.j 0-1).toNat,by omega,by omega⟩
       have hkd:(bE (L.map aQ.c) ((aB L r).xs.getD y.j 0)).kind=2:=by rw[dH];show(aB L ((aB L r).xs.getD y.j 0)).nd.kind=2;omega
       rw[hj] at hkd;refine lB ?_;refine Nq [14,97,98,99,100,101,102,103,104,105,106] (λ u:Option Addr×Nat=>[(14,.slice u.1 (way++[ix.getD y.j 0]).length u.2)]) (λ u=>way.length+1<=u.2) (λ _=>[]) (λ _=>[]) (λ u=>[⟨u.1,aH (way++[ix.getD y.j 0]),u.2,3,1⟩]) (by decide) (λ _=>by exact rfl) (λ _=>by simp only[List.nil_append,List.cons_append];exact rfl) (λ _=>by simp only[List.nil_append,List.cons_append];exact rfl) (λ _=>by simp only[List.nil_append,List.cons_append];exact rfl) ?_ (λ u f hx=>?_)
       ·refine gO (.one 1 [] (.one 2 [] (.one 4 [] (.one 5 [] (.one 6 [] (.one 7 [] (.two 0 [2,6,7] (.two 3 [6,7] (.one 8 [2] (.one 9 [] (.one 10 [] .nil))) 0 [] (.two 8 [2] (.one 3 [6,7] (.one 9 [] (.one 10 [] .nil))) 0 [] .nil)) 0 [] (.two 8 [2] (.one 0 [2,6,7] (.one 3 [6,7] (.one 9 [] (.one 10 [] .nil)))) 0 [] .nil)))))))) ?_;refine mE ?_;refine iW ?_;refine bU (i:=6) (hq:=(dR (k:=y.j) (lst:=ix) rf rf gS fW fin (by omega) (by omega))) (h:=?_);refine bU (i:=7) (hq:=(fI (q:=y.j) (lst:=ix) rf fW fin (by omega))) (h:=?_);refine gL (E:=[0,8]) (by decide +kernel) ((.cons ?_ (.cons ?_ .nil)))
        ·refine gm (i:=0) (hfire:=E0k) (h:=λ x97=>?_);refine gL (E:=[3,8]) (by decide +kernel) ((.cons ?_ (.cons ?_ .nil)))
         ·(refine sj (i:=3) (hfire:=E0e) (h:=λ x100=>?_);try (refine eK (λ h100=>?_)));refine cE (hfire:=E1a) (h:=λ x105=>?_);((refine mZ (h:=λ x106=>?_);try (refine eK (λ h106=>?_))));refine J7 ?_;refine lR (x106) (by decide) ?_ E0d ?_ (λ w hw=>hw.back (hF:=E0n) (hO:=E0m))
          ·repeat' (first|exact bF _|refine aX ?_ ?_)
           (conv=>{lhs;whnf};simp;done)
          ·omega
         ·refine nF (i:=8) (hfire:=E1a) (h:=λ x105=>?_);((refine mZ (hfire:=E0e) (h:=λ x100=>?_);try (refine eK (λ h100=>?_))));((refine mZ (h:=λ x106=>?_);try (refine eK (λ h106=>?_))));refine J7 ?_;refine lR (x106) (by decide) ?_ E0d ?_ (λ w hw=>hw.back (hF:=E0n) (hO:=E0m))
          ·repeat' (first|exact bF _|refine aX ?_ ?_)
           (conv=>{lhs;whnf};simp;done)
          ·omega
        ·refine nF (i:=8) (hfire:=E1a) (h:=λ x105=>?_);refine ja (hfire:=E0k) (h:=λ x97=>?_);((refine mZ (hfire:=E0e) (h:=λ x100=>?_);try (refine eK (λ h100=>?_))));((refine mZ (h:=λ x106=>?_);try (refine eK (λ h106=>?_))));refine J7 ?_;refine lR (x106) (by decide) ?_ E0d ?_ (λ w hw=>hw.back (hF:=E0n) (hO:=E0m))
         ·repeat' (first|exact bF _|refine aX ?_ ?_)
          (conv=>{lhs;whnf};simp;done)
         ·omega
       refine K0a ?_;refine aT ?_;refine gH [0,1,2,3,4,5,6,7,8,9,10,11,12,13,14,15,16,17,18,19,20,21] ?_;refine bV ?_;refine Ke0 ?_;refine bU (i:=4) (hq:=(dR (k:=y.j) (lst:=(aB L r).xs) rf rf gS fW (.bS .head) (by omega) (by omega))) (h:=?_);refine bU (i:=5) (hq:=(qF (cs:=aH (aB L r).xs) (q:=y.j) (v:=.int .i64 ((q+1:Nat):Int)) rf fW (λ w hw=>hw.cl (.bS .head)) (by rw[<- hj];exact P9 hjl))) (h:=?_);refine mE ?_;refine mE ?_;refine ns ?_;refine aV ?_;refine gM ?_;refine aV ?_;refine bI (i:=14) (hq:=(cM (hs:=[]) (os:=[yi L pv y.sn]) (hA:=bH.cons (.inr (.inl (.tail _ (.head _)))) (bH.cons (.inr (.inl (.tail _ (.tail _ (.head _))))) (bH.cons (.inr (.inr (.inr ⟨_,.head _,rfl,rfl⟩))) (bH.of λ f hf=>.inr (.inl (.tail _ (.tail _ (.tail _ (.tail _ hf))))))))) (hc:=λ w1 hs=>ih m rfl (lv+1) (by omega) q ((k+1:Nat):Int) 0 (way++[ix.getD y.j 0]) u.1 u.2 _ y.sn _ w1 hq (by simp;omega) (by simp;omega) hy.2.2.1 hs))) (h:=λ x122 h122=>?_);refine aV ?_;refine iJ ?_;refine iJ ?_;refine iJ ?_;refine qN (h:=λ _=>?_);refine Pa ?_;refine jS ?_;refine oG ?_;refine bD (λ c127=>?_) (λ c127=>?_)
       ·try (first|(exact abt)|(exfalso;omega))
        have hno:=M5.aEo h122 (by simpa using c127);refine J0 ?_;refine jC (λ _=>?_);refine J8 ?_;refine aZ results116 (λ w hw=>?_);exact⟨⟨false,[],none,0,[],none,0,x122.sn,false⟩,rfl,M5.no ((hpl c52 c61).trans (by rw[Bu.fail hy.2.1 hjl (by rw[hj];exact hkd) (by rw[hj];exact hno)];rfl)) h122.1 rfl,(hw.eY (F':=[(none,rX [])]) E0u).bB (hO:=.cons _ (.cons _ (.cons _ (List.Sublist.refl _))))⟩
       ·try (first|(exact abt)|(exfalso;omega))
        obtain⟨qq,hq1,e1,e2,⟨p0,t0,e3⟩,e4,e5,e6⟩:=M5.yes h122 (by simpa using c127);have hlen1:=e5.len;have hlen2:x122.l.length=qq.1.length:=by rw[<- e1,List.length_map]
        simp only[List.length_append,List.length_map,List.length_cons,List.length_nil] at hlen1;have hmul2:(y.tl.length+1)*(B+64)+x122.l.length*(B+64)<=549755813888:=by rw[<- Nat.add_mul];exact Nat.le_trans (Nat.mul_le_mul_right _ (by omega)) hB.2
        obtain⟨m0,t1,e7⟩:=ll hq1;have e8:p0.way=way++[ix.getD y.j 0]:=by have:=e1;rw[e3,e7] at this;rw[show p0=_ from(List.cons.inj this).1]
        refine aW ?_;refine Km ?_;(refine aP (bG.eM (gA (sz:=5) (cs:=rX (⟨⟨((k+1:Nat):Int),r,a,lv,way⟩,wp,wc⟩::y.tl)) (ys:=rX x122.l) rf rf zH (by rw[xZ];rfl) (.new .head) (by rw[xZ]) (Ca _) Hl rfl (by decide) gS (by omega)) vS) (λ x130=>?_);try (refine eP (λ h130=>?_)));refine qX ?_;(refine aP (bG.eM (Nk (l:=y.ps) (l2:=x122.ps) rf rf zH rfl (Gy.fin e4 (λ f hf=>List.mem_append_left _ hf) (λ f hf=>.tail _ (.tail _ (.tail _ (.tail _ hf))))) rfl ep1 gS (by omega)) vS) (λ x133=>?_);try (refine eP (λ h133=>?_)));refine J8 ?_;refine Kb6 ?_;refine lR ((by exact⟨y.j+1,y.tl++x122.l,x130.1,x130.2,y.ps++x122.ps,x133.1,x133.2,x122.sn⟩)) ?_ ?_ E0d ?_ (λ w hw=>by exact aA3 hw e3 e8);·(simp only[];omega)
        ·repeat' (first|exact bF _|refine aX ?_ ?_)
         all_goals (first|exact rfl|(conv=>{lhs;whnf};simp;done)|(conv=>{lhs;whnf};simp only[List.length_append];congr 1;omega))
        ·exact aAH hy.2.1 hjl hj hkd hq1 e1 e2 e5 e6 hbnd
    ·try (first|(exact abt)|(exfalso;omega))
     refine K1t ?_;refine jD ?_;refine jC (λ _=>?_);refine J8 ?_;refine aZ results116 (λ w hw=>?_);refine⟨⟨true,⟨⟨((k+1:Nat):Int),r,a,lv,way⟩,wp,wc⟩::y.tl,y.lp,y.lc,y.ps,y.pp,y.pc,y.sn,true⟩,rfl,aCo hy.2.2.1 ((hpl c52 c61).trans (by rw[Bu.done hy.2.1 (by omega)];rfl)) hy.2.2.2,?_⟩;exact(SF.eY ((hw.freeze .head).freeze .head) (aDn y.tl)).v4
theorem Pm(h0:Fits L)(hb:StB L cs)(hl:L.length<=274877906944)(hc:cs.length<=274877906944)(hbm:∀r,∃b:Nat,b<18446744073709551616/\(aB L r).nd.bm=(b:Int)/\((aB L r).nd.kind=3->(aB L r).xs.length=fQ b 64))(B pv:Nat)(hB:Few L B):∀n,aAI L cs gen pn cn pc cc B pv n
 | 0=>Lg h0 hb hl hc hbm B pv hB 0 λ m e=>nomatch e
 | n+1=>Lg h0 hb hl hc hbm B pv hB (n+1) λ m e=>by cases e;exact Pm h0 hb hl hc hbm B pv hB n
end
end
end Go.Proofs.YtbajmaoegmbfgaaGreat
