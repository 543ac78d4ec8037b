/- Merged. -/
import Derived.Test.YtbajmaoegmbfgaaGreatGIxg
import Derived.Test.YtbajmaoegmbfgaaGreatGWo4
import Derived.Test.YtbajmaoegmbfgaaGreatGAr4
import Derived.Test.YtbajmaoegmbfgaaGreatGRn1
set_option linter.unusedSimpArgs false
set_option linter.unusedVariables false
namespace Go.Ct
open Go Go.RowKit
section
structure AS where
 L:List aP
 cs:List Int
 gen:Int
 acc:Int
 pn:Option Addr
 cn:Nat
 pc:Option Addr
 cc:Nat
def AS.mm(a:AS):Mm:=⟨(cP a.L).map aP.c,a.cs,a.gen⟩
structure Zn(s:Mm):Prop where
 nd:∀v∈s.nodes,lX s.nodes.length s.cs.length v
 cs:∀v∈s.cs,v<=s.nodes.length
 two:2<=s.nodes.length
structure AS.Ok(a:AS):Prop where
 fit:Fits a.L
 mo:Zn a.mm
structure Mm.Le(s s1:Mm):Prop where
 nodes:∃N,s1.nodes=s.nodes++N
 cl:s.cs.length<=s1.cs.length
def Mm.Small(s:Mm):Prop:=s.nodes.length<=137438953472/\s.cs.length<=137438953472
structure AS.jZ(a a':AS)(F:Fr):Prop where
 le:a.mm.Le a'.mm
 fam:∀f∈aM a'.L,f.2=[]∨f∈aM a.L∨f∈F
theorem Mm.Le.refl(s:Mm):s.Le s:=⟨⟨[],by simp⟩,Nat.le_refl _⟩
theorem Mm.Le.trans{s t u:Mm}(h:s.Le t)(h2:t.Le u):s.Le u:=by
 obtain⟨⟨N,e⟩,c⟩:=h
 obtain⟨⟨M,e2⟩,c2⟩:=h2
 exact⟨⟨N++M,by rw[e2,e,List.append_assoc]⟩,Nat.le_trans c c2⟩
theorem Mm.Le.len{s t:Mm}(h:s.Le t):s.nodes.length<=t.nodes.length:=by obtain⟨N,e⟩:=h.nodes;rw[e,List.length_append];omega
theorem Mm.Le.nd{s t:Mm}(h:s.Le t){r:Int}(hr:r<=s.nodes.length):aS t.nodes r=aS s.nodes r:=by obtain⟨N,e⟩:=h.nodes;rw[e];exact iG hr
theorem AS.jZ.refl(a:AS):a.jZ a []:=⟨Mm.Le.refl _,λ f hf=>.inr (.inl hf)⟩
theorem AS.jZ.more{a a':AS}{F F':Fr}(h:a.jZ a' F)(hs:∀f∈F,f∈F'):a.jZ a' F':=⟨h.le,λ f hf=>(h.fam f hf).imp_right λ h=>h.imp_right λ h=>hs f h⟩
theorem AS.jZ.trans{a b c:AS}{F G:Fr}(h:a.jZ b F)(h2:b.jZ c G):a.jZ c (G++F):=⟨h.le.trans h2.le,λ f hf=>by
 rcases h2.fam f hf with h1|h1|h1
 ·exact .inl h1
 ·rcases h.fam f h1 with h1|h1|h1
  ·exact .inl h1
  ·exact .inr (.inl h1)
  ·exact .inr (.inr (List.mem_append_right _ h1))
 ·exact .inr (.inr (List.mem_append_left _ h1))⟩
theorem Zn.at{s:Mm}(h:Zn s)(r:Int):lX s.nodes.length s.cs.length (aS s.nodes r):=by
 unfold aS
 split
 ·refine h.nd _ ?_
  rw[iM,List.getElem?_eq_getElem (by omega)]
  exact List.getElem_mem _
 ·exact Pt _ _
theorem Zn.cell{s:Mm}(h:Zn s)(c:Int):aW s.cs c<=s.nodes.length:=by
 unfold aW
 split
 ·exact mM h.cs _
 ·exact bK _
theorem Zn.jE{s:Mm}(h:Zn s){c o n:Int}(hn:n<=s.nodes.length):Zn ⟨s.nodes,dE s.cs c o n,s.gen⟩:=by
 refine⟨λ v hv=>by simp only[fI];exact h.nd v hv,λ v hv=>?_,h.two⟩
 simp only[dE] at hv
 split at hv
 ·rcases List.mem_or_eq_of_mem_set hv with hv|rfl
  ·exact h.cs v hv
  ·exact hn
 ·exact h.cs v hv
def gX:Tr->Mm->Tr×Mm
 | .alloc n i k,s=>gX (k ((s.nodes.length+1:Nat):Int)) (s.push n i)
 | .cell i k,s=>gX (k ((s.cs.length+1:Nat):Int)) ⟨s.nodes,s.cs++[i],s.gen⟩
 | .gen k,s=>gX (k (s.gen+1)) ⟨s.nodes,s.cs,s.gen+1⟩
 | .node r k,s=>gX (k (aS s.nodes r)) s
 | t,s=>(t,s)
def nxT:Tr->Mm->Tr×Mm
 | .load c k,s=>(k (aW s.cs c),s)
 | .jE c o n k,s=>(k (Mb s.cs c o),⟨s.nodes,dE s.cs c o n,s.gen⟩)
 | t,s=>(t,s)
def D3(p:Tr×Mm):Tr×Mm:=gX (nxT p.1 p.2).1 (nxT p.1 p.2).2
def Tr.live:Tr->Bool
 | .done _=>false
 | _=>true
def lG(p:Tr×Mm):Nat->Tr×Mm
 | 0=>p
 | k+1=>D3 (lG p k)
theorem Mh(p:Tr×Mm)(j:Nat):∀k,lG p (j+k)=lG (lG p j) k
 | 0=>rfl
 | k+1=>by show D3 (lG p (j+k))=_;rw[Mh p j k];rfl
end
end Go.Ct
namespace Go.Proofs.YtbajmaoegmbfgaaGreat
open Go.Proofs.Tryz (prog)
open Go Go.RowKit Go.Ct
section
abbrev gH(a:AS):Obj:=aO a.L a.cs a.gen a.acc a.pn a.cn a.pc a.cc
abbrev gK(a:AS):List Ow:=mW a.L a.cs a.pn a.cn a.pc a.cc
def Gy(b:Nat)(R:Cd->Mm->Fr->Prop)(a:AS)(B:Fr)(D:List Nat)(w:World):Ending->World->Prop:=λ e w'=>∃y:Cd×Fr×AS,e=.returned (.agg ⟨y.1.cells⟩)/\(R y.1 y.2.2.mm (y.2.1++B)/\y.2.2.Ok/\a.jZ y.2.2 y.2.1)/\SF w D [(b,gH y.2.2)] [] y.2.1 (gK y.2.2) w'
def A6(b:Nat)(f:FuncId)(cap:List Value)(arg:List Value)(B:Fr)(s:Mm)(R:Cd->Mm->Fr->Prop):Prop :=
 ∀(a:AS) (D:List Nat) (A:Fr) (w:World),a.mm=s->a.Ok->s.Small->(∀f∈aM a.L,f∈A)->(∀f∈B,f∈A)->SF w D [(b,gH a)] A [] (gK a) w->Calls prog f ⟨arg++cap⟩ w (Gy b R a B D w)
def lW(b:Nat):Tr->Mm->Cd->Mm->Fr->Prop
 | .done r,s,c,s2,_=>s2=s/\c=Ht r
 | .load x k,s,c,s2,B=>s2=s/\x<=9223372036854775807/\∃f cap,c=wY x f cap/\plain prog f=true/\∀(v:Int) (s1:Mm),s.Le s1->v<=s1.nodes.length->A6 b f cap [.int .i64 v] B s1 λ c' s' B'=>lW b (k v) s1 c' s' B'
 | .jE x o n k,s,c,s2,B=>s2=s/\x<=9223372036854775807/\n<=s.nodes.length/\∃f cap,c=yG x o n f cap/\plain prog f=true/\∀(v:Bool) (s1:Mm),s.Le s1->A6 b f cap [.bool v] B s1 λ c' s' B'=>lW b (k v) s1 c' s' B'
 | .alloc n i k,s,c,s2,B=>lW b (k ((s.nodes.length+1:Nat):Int)) (s.push n i) c s2 B
 | .cell i k,s,c,s2,B=>lW b (k ((s.cs.length+1:Nat):Int)) ⟨s.nodes,s.cs++[i],s.gen⟩ c s2 B
 | .gen k,s,c,s2,B=>lW b (k (s.gen+1)) ⟨s.nodes,s.cs,s.gen+1⟩ c s2 B
 | .node r k,s,c,s2,B=>r<=s.nodes.length/\lW b (k (aS s.nodes r)) s c s2 B
 | .stuck,_,_,_,_=>True
def Iq(b:Nat)(K:Int->Tr)(s:Mm)(f:FuncId)(cap:List Value)(B:Fr):Prop:=plain prog f=true/\∀(v:Int) (s1:Mm),s.Le s1->v<=s1.nodes.length->A6 b f cap [.int .i64 v] B s1 λ c' s' B'=>lW b (K v) s1 c' s' B'
def Yu(b:Nat)(K:Bool->Tr)(s:Mm)(f:FuncId)(cap:List Value)(B:Fr):Prop:=plain prog f=true/\∀(v:Bool) (s1:Mm),s.Le s1->A6 b f cap [.bool v] B s1 λ c' s' B'=>lW b (K v) s1 c' s' B'
def Th0(b:Nat)(t:Tr)(s:Mm)(f:FuncId)(cap:List Value)(B:Fr):Prop:=plain prog f=true/\∀s1:Mm,s.Le s1->A6 b f cap [] B s1 λ c' s' B'=>lW b t s1 c' s' B'
section
variable{b:Nat}{f:FuncId}{cap arg:List Value}{B B2:Fr}{s s1 s2:Mm}{t:Tr}{c:Cd}
theorem A6.more{R R2:Cd->Mm->Fr->Prop}(h:A6 b f cap arg B s R)(hb:∀x∈B,x∈B2)(hR:∀c m C C2,(∀x∈C,x∈C2)->R c m C->R2 c m C2):A6 b f cap arg B2 s R2:=λ a D A w e1 ok hs h1 h2 hw =>
 (h a D A w e1 ok hs h1 (λ x hx=>h2 x (hb x hx)) hw).mono λ e w' ⟨y,he,⟨hr,h3⟩,hs⟩=>⟨y,he,⟨hR _ _ _ _ (λ x hx=>by
  rcases List.mem_append.1 hx with h1|h1
  ·exact List.mem_append_left _ h1
  ·exact List.mem_append_right _ (hb x h1)) hr,h3⟩,hs⟩
theorem lW.more:∀{t:Tr} {s s2:Mm} {c:Cd} {B B2:Fr},lW b t s c s2 B->(∀x∈B,x∈B2)->lW b t s c s2 B2
 | .done _,_,_,_,_,_,h,_=>h
 | .load _ k,_,_,_,_,_,⟨h0,h1,f,cap,h2,h3,h4⟩,hb=>⟨h0,h1,f,cap,h2,h3,λ v s1 l hv=>(h4 v s1 l hv).more hb λ _ _ _ _ hC h=>lW.more (t:=k v) h hC⟩
 | .jE _ _ _ k,_,_,_,_,_,⟨h0,h1,hn,f,cap,h2,h3,h4⟩,hb=>⟨h0,h1,hn,f,cap,h2,h3,λ v s1 l=>(h4 v s1 l).more hb λ _ _ _ _ hC h=>lW.more (t:=k v) h hC⟩
 | .alloc n i k,s,_,_,_,_,h,hb=>lW.more (t:=k ((s.nodes.length+1:Nat):Int)) h hb
 | .cell i k,s,_,_,_,_,h,hb=>lW.more (t:=k ((s.cs.length+1:Nat):Int)) h hb
 | .gen k,s,_,_,_,_,h,hb=>lW.more (t:=k (s.gen+1)) h hb
 | .node r k,s,_,_,_,_,h,hb=>⟨h.1,lW.more (t:=k (aS s.nodes r)) h.2 hb⟩
 | .stuck,_,_,_,_,_,_,_=>trivial
theorem Iq.more{K:Int->Tr}(h:Iq b K s f cap B)(hb:∀x∈B,x∈B2):Iq b K s f cap B2:=⟨h.1,λ v s1 l hv=>(h.2 v s1 l hv).more hb λ _ _ _ _ hC h=>lW.more h hC⟩
theorem Yu.more{K:Bool->Tr}(h:Yu b K s f cap B)(hb:∀x∈B,x∈B2):Yu b K s f cap B2:=⟨h.1,λ v s1 l=>(h.2 v s1 l).more hb λ _ _ _ _ hC h=>lW.more h hC⟩
theorem Iq.le{K:Int->Tr}(h:Iq b K s f cap B)(l:s.Le s1):Iq b K s1 f cap B:=⟨h.1,λ v s2 l2 hv=>h.2 v s2 (l.trans l2) hv⟩
theorem Yu.le{K:Bool->Tr}(h:Yu b K s f cap B)(l:s.Le s1):Yu b K s1 f cap B:=⟨h.1,λ v s2 l2=>h.2 v s2 (l.trans l2)⟩
theorem lW.kind(h:lW b t s c s2 B)(ha:eE t=true):(c.a.k=0↔t.live=false)/\(∀r,t=.done r->c.r=r)/\(∀x,t.acc=some x->c.a=x):=by
 cases t with
 | done r=>rw[h.2];exact⟨⟨λ _=>rfl,λ _=>rfl⟩,(λ r e=>by cases e;rfl),(λ x e=>nomatch e)⟩
 | load x k =>
  obtain⟨_,_,f,cap,e,_⟩:=h
  rw[e]
  exact⟨⟨λ h=>absurd h (show(1:Int)≠0 by decide),(λ h=>nomatch h)⟩,(λ r e=>nomatch e),λ x e=>by cases e;rfl⟩
 | jE x o n k =>
  obtain⟨_,_,_,f,cap,e,_⟩:=h
  rw[e]
  exact⟨⟨λ h=>absurd h (show(2:Int)≠0 by decide),(λ h=>nomatch h)⟩,(λ r e=>nomatch e),λ x e=>by cases e;rfl⟩
 | alloc n i k=>cases ha
 | cell i k=>cases ha
 | gen k=>cases ha
 | node r k=>cases ha
 | stuck=>cases ha
theorem lW.gX:∀{t:Tr} {s s2:Mm} {c:Cd} {n m:Nat},bU t n m->lW b t s c s2 B->(gX t s).2=s2/\eE (gX t s).1=true/\lW b (gX t s).1 s2 c s2 B
 | .done _,_,_,_,_,_,_,h=>by obtain⟨rfl,h2⟩:=h;exact⟨rfl,rfl,rfl,h2⟩
 | .load _ k,_,_,_,_,_,_,h=>by obtain⟨rfl,h2⟩:=h;exact⟨rfl,rfl,rfl,h2⟩
 | .jE _ _ _ k,_,_,_,_,_,_,h=>by obtain⟨rfl,h2⟩:=h;exact⟨rfl,rfl,rfl,h2⟩
 | .alloc n i k,s,_,_,_,0,ht,h=>ht.elim
 | .alloc n i k,s,_,_,_,_+1,ht,h=>lW.gX (t:=k ((s.nodes.length+1:Nat):Int)) (ht _) h
 | .cell i k,s,_,_,_,0,ht,h=>ht.elim
 | .cell i k,s,_,_,_,_+1,ht,h=>lW.gX (t:=k ((s.cs.length+1:Nat):Int)) (ht _) h
 | .gen k,s,_,_,_,0,ht,h=>ht.elim
 | .gen k,s,_,_,_,_+1,ht,h=>lW.gX (t:=k (s.gen+1)) (ht _) h
 | .node r k,s,_,_,_,_,ht,h=>lW.gX (t:=k (aS s.nodes r)) (ht _) h.2
 | .stuck,_,_,_,_,_,ht,_=>ht.elim
end
section
variable{S:List (Nat×Value)}{w0 w:World}{M:List Nat}{H:List (Nat×Obj)}{A F:Fr}{O:List Ow}{ty:TypeId}{pos:String}{af:Array Edge}{gd:Option (Nat×Bool)}{X:Type}{V:X->Value}
theorem cMf{φ:X->Prop}{hs H':List (Nat×Obj)}{os O':List Ow}{hs' H1:X->List (Nat×Obj)}{os' O1:X->List Ow}{Fc F1:X->Fr}{A0:Fr}{is js:List Nat}{f:FuncId}{cap:List Value}{xs:List Operand}{at_:Array TypeId}{vs:List Value}{dst:Option Nat}{x:Operand}
  (hx:ev S x=.func (.func f) #[] ⟨cap⟩:=by exact rfl) (ha:qX S xs=vs:=by(repeat (first|exact dI _|(apply cL;focus ((conv=>{lhs;whnf});try exact rfl))));first|done|fail) (hp:plain prog f=true)
  (hc:∀w,SF w (Ks hs os) hs A0 [] os w->Calls prog f ⟨vs++cap⟩ w λ e w'=>∃x,e=.returned (V x)/\φ x/\SF w (Ks hs os) (hs' x) [] (Fc x) (os' x) w')
  (hH:lY H is hs H':=by(repeat (first|exact lY.nil|(apply lY.cons;(focus ((repeat (first|exact yV.head|apply yV.tail));done));simp only[qU])));first|done|fail)
  (hO:lY O js os O':=by(repeat (first|exact lY.nil|(apply lY.cons;(focus ((repeat (first|exact yV.head|apply yV.tail));done));simp only[qU])));first|done|fail)
  (hA:bG A F O' A0:=by exact bG.of (λ _ h=>Or.inr (Or.inl h)))
  (hl1:∀x,is.length=(hs' x).length:=by intro x;exact rfl) (hl2:∀x,js.length=(os' x).length:=by intro x;exact rfl)
  (hH1:∀x,iT is (hs' x) H'=H1 x:=by intro x;first|(simp only[iT,rS];exact rfl)|exact rfl) (hF1:∀x,Fc x++F=F1 x:=by intro x;first|(simp only[List.nil_append,List.cons_append];exact rfl)|exact rfl) (hO1:∀x,iT js (os' x) O'=O1 x:=by intro x;simp only[iT,rS,mW];exact rfl) :
  bF prog S (SF w0 M H A F O) ⟨dst,.call {callee:=.value x,args:=⟨xs⟩,argTypes:=at_},ty,pos,af,gd⟩ X V (λ x w=>φ x/\SF w0 M (H1 x) A (F1 x) (O1 x) w) :=
 iA (ss hx hp ha) λ w hw=>(hc w (hw.qE hH hO hA)).mono λ _ _ ⟨x,he,hx,hs⟩=>⟨x,he,hx,by
  have:=hw.xZ (hs':=hs' x) (Hc:=[]) (os':=os' x) (Oc:=[]) hH hO (by simpa using hs) (hl1 x) (hl2 x)
  rw[<- hH1 x,<- hF1 x,<- hO1 x]
  simpa using this⟩
end
end
end Go.Proofs.YtbajmaoegmbfgaaGreat
namespace Go.Ct
open Go Go.RowKit
section
theorem SF.same{w w':World}{b:Nat}{o:Obj}(h:SF w [b] [(b,o)] [] [] [] w')(hb:w.heap[b]?=some o):St w [] [] w' :=
 ⟨h.st.os,h.st.tape,h.st.output,h.st.size,λ k hk _=>by
  by_cases e:k=b
  ·subst e;rw[h.st.has (k,o) (List.mem_singleton.2 rfl),hb]
  ·exact h.st.kM k hk (by simpa using e),λ _ h=>(List.not_mem_nil h).elim,λ _ h=>(List.not_mem_nil h).elim,List.nodup_nil⟩
theorem SF.wj{w:World}{b:Nat}{o:Obj}(hb:w.heap[b]?=some o):SF w [b] [(b,o)] [] [] [] w :=
 ⟨⟨rfl,rfl,rfl,Nat.le_refl _,λ _ _ _=>rfl,λ p hp=>by rw[List.mem_singleton.1 hp];exact hb,λ p hp=>by rw[List.mem_singleton.1 hp];exact .inl (List.mem_singleton.2 rfl),by simp⟩,λ _ h=>(List.not_mem_nil h).elim,λ _ h=>(List.not_mem_nil h).elim,λ _ h=>(List.not_mem_nil h).elim,by simp[Ks]⟩
end
end Go.Ct
namespace Go.Proofs.YtbajmaoegmbfgaaGreat
open Go Go.RowKit Go.Ct
section
abbrev tkC(b:Nat)(c:Cd)(n:Nat)(z:Bool):List Value:=[.iface 42 (.pointer (some ⟨b,0,none⟩)),.int .i64 c.a.k,.int .i64 c.a.c,.int .i64 c.a.o,.int .i64 c.a.n,fnV c.f,fnV c.g,.int .i64 c.r.err,.bool c.r.found,.int .u64 c.r.val,.string c.r.key,.int .i64 c.r.gA,.int .i64 c.r.ref,.int .i64 c.r.root,.bool c.r.ro,.int .i64 ((n:Nat):Int),.bool z]
abbrev tO(b:Nat)(c:Cd)(n:Nat):Obj:=.cells ⟨tkC b c n false⟩ 141 (0,0)
section
variable{D:List Nat}{A B:Fr}{L:List aP}{cs:List Int}{gen acc:Int}{pn pc:Option Addr}{cn cc b bt n:Nat}{w:World}{c:Cd}
theorem Aw(h:w.heap[bt]?=some (tO b c n)):Calls Tryz.prog 33 #[.pointer (some ⟨bt,0,none⟩)] w λ e w'=>e=.returned (.bool (c.a.k==0))/\St w [] [] w':=by
 refine enter Tryz.func33 Tryz.ntmps33 rfl rfl (SF.wj h) ?_
 simp only[cC]
 refine cX ?_;refine I1 ?_;refine aF ?_;refine J3 ?_;refine Ro ?_
 refine aR Tryz.results33 (λ w hw=>?_)
 exact⟨rfl,hw.aX.same h⟩
theorem To(h:w.heap[bt]?=some (tO b c n)):Calls Tryz.prog 34 #[.pointer (some ⟨bt,0,none⟩)] w λ e w'=>e=.returned (.agg ⟨(if c.a.k=0 then c.r else Rs.zero).cells⟩)/\St w [] [] w':=by
 refine enter Tryz.func34 Tryz.ntmps34 rfl rfl (SF.wj h) ?_
 simp only[cC]
 refine J0 ?_;refine aK (λ x2=>?_);refine aH ?_;refine kT ?_;refine aQ (cV (hc:=λ w1 hw=>Aw (hw.st.at dC))) (λ x4=>?_);refine oV ?_
 refine bC (λ c5=>?_) (λ c5=>?_)
 ·refine Kb8 ?_
  refine bE Tryz.results34 (λ w hw=>?_)
  refine⟨?_,hw.aX.same h⟩
  rw[if_neg (by simpa using c5)]
  rfl
 ·refine aZ ?_;refine I1 ?_;refine aF ?_;refine aC (aT (k:=8) (vs:=c.r.cells) rf dC eT rfl rfl) rfl ?_;refine J5 ?_
  refine bE Tryz.results34 (λ w hw=>?_)
  refine⟨?_,hw.aX.same h⟩
  rw[if_pos (by simpa using c5)]
  rfl
end
end
end Go.Proofs.YtbajmaoegmbfgaaGreat
namespace Go.Ct
open Go Go.RowKit
section
abbrev AS.Y9(a:AS)(cs:List Int):AS:={a with cs:=cs,acc:=up a.acc}
theorem AS.Ok.Y9{a:AS}(ok:a.Ok){x o n:Int}(hn:n<=a.mm.nodes.length):(a.Y9 (dE a.cs x o n)).Ok:=⟨ok.fit,ok.mo.jE hn⟩
end
end Go.Ct
namespace Go.Proofs.YtbajmaoegmbfgaaGreat
open Go.Proofs.Tryz (prog)
open Go Go.RowKit Go.Ct
section
section
variable{D:List Nat}{A B:Fr}{a:AS}{b bt n:Nat}{w:World}{c:Cd}{t:Tr}{f:FuncId}{cap:List Value}
theorem ng(h:Th0 b t a.mm f cap B)(ok:a.Ok)(hm:a.mm.Small)(hA:∀f∈aM a.L,f∈A)(hB:∀x∈B,x∈A)(hs:SF w D [(b,gH a)] A [] (gK a) w) :
  Calls prog 118 #[.func (.func f) #[] ⟨cap⟩] w (Gy b (λ c' s' B'=>lW b t a.mm c' s' B') a B D w):=by
 obtain⟨hp,h⟩:=h
 refine Tp Tryz.func118 Tryz.ntmps118 rfl rfl hs ?_
 simp only[cC]
 refine gB ?_;refine dX ?_;refine wC (λ x2=>?_);refine iR ?_;refine gB ?_;refine dX ?_;(refine gS dZ rfl ?_);refine G7 rfl ?_;refine iR ?_;refine gB ?_;refine gB ?_;refine dX ?_;refine pC ?_;refine gS (Lf rf rf (aBI _ _ _)) rfl ?_;refine iR ?_
 refine Kf (λ c5=>?_) (λ c5=>?_)
 ·exact nv c5
 ·revert c5;(skip);intro c5
  refine E1 ?_;refine gB ?_;refine dX ?_;refine pC ?_;refine zX (cMf (V:=λ y:Cd×Fr×AS=>.agg ⟨y.1.cells⟩) (hs:=[(b,gH a)]) (os:=gK a) (hs':=λ y=>[(b,gH y.2.2)]) (os':=λ y=>gK y.2.2) (Fc:=λ y=>y.2.1) (A0:=A) (f:=f) (cap:=cap) (vs:=[]) (hp:=hp) (hc:=λ w1 hw=>h a.mm (Mm.Le.refl _) a _ A w1 rfl ok hm hA hB hw)) (λ x8 h8=>?_);refine Lw (jR λ _=>bS rf dC rf (eF _) eT rf lS) (λ _=>?_);refine iR ?_
  refine H4 (Sy _) (by kernel_rfl) Tryz.results118 (.cell rf dC eT .nil) (λ w hw=>?_)
  exact⟨x8,rfl,h8,hw.ret (by repeat (first|exact List.Sublist.refl _|apply List.Sublist.cons)) (aY.jH λ f hf=>by simpa using hf) (List.Sublist.refl _)⟩
theorem Fq{x:Int}{k:Int->Tr}(hr:lW b (.load x k) a.mm c a.mm B)(ok:a.Ok)(hm:a.mm.Small)(hA:∀f∈aM a.L,f∈A)(hB:∀x∈B,x∈A)(hs:SF w D [(b,gH a)] A [] (gK a) w) :
  Calls prog 86 #[.iface 42 (.pointer (some ⟨b,0,none⟩)),.agg ⟨c.cells⟩] w (Gy b (λ c' s' B'=>lW b (k (aW a.cs x)) a.mm c' s' B') a B D w):=by
 obtain⟨_,hx,f,cap,rfl,hp,hk⟩:=hr
 have hl:a.cs.length<=274877906944:=by have:=hm.2;show a.mm.cs.length<=_;omega
 have hv:aW a.cs x<=a.mm.nodes.length:=ok.mo.cell x
 refine Tp Tryz.func86 Tryz.ntmps86 rfl rfl hs ?_
 simp only[cC]
 refine gB ?_;refine dX ?_;refine gj (λ x3=>?_);refine wC (λ x4=>?_);refine iR ?_;refine gB ?_;refine dX ?_;(refine gS dZ rfl ?_);refine G7 rfl ?_;refine iR ?_;refine gB ?_;refine dX ?_;refine eM ?_;refine gS (aT (k:=4) (vs:=(wY x f cap).a.cells) rf dC eT rfl rfl) rfl ?_;refine wC (λ x5=>?_);refine Qb (λ _=>?_);refine iR ?_;refine gB ?_;refine gB ?_;refine dX ?_;refine eM ?_;refine nZ ?_;refine ap ?_;refine iR ?_
 refine Kf (λ c13=>?_) (λ c13=>?_)
 ·revert c13;(refine cv1 ?_);intro c13
  refine gB ?_;refine dX ?_;refine zJ (λ _=>?_);refine iR ?_;refine gB ?_;refine gB ?_;refine dX ?_;refine pC ?_;refine gS (Wu rf rf (Dx _)) rfl ?_;refine iR ?_
  refine Kf (λ c15=>?_) (λ c15=>?_)
  ·revert c15;(skip);intro c15
   refine dX ?_;refine pC ?_;refine eM ?_;refine nZ ?_;refine zX (cMI (V:=λ _:Unit=>.int .i64 (aW a.cs x)) (os':=λ _=>gK (a.Y9 a.cs)) (hs':=λ _=>[(b,gH (a.Y9 a.cs))]) (Fc:=λ _=>[]) (A0:=A) (hm:=λ w=>ew _ _ w) (hc:=λ w hw=>Nc hw x hx hl)) (λ x19 h19=>?_);refine zJ (λ _=>?_);refine iR ?_;refine gB ?_;refine gB ?_;refine dX ?_;refine eM ?_;refine nZ ?_;refine gS (Lf rf rf (aCb _ _ _)) rfl ?_;refine iR ?_
   refine Kf (λ c22=>?_) (λ c22=>?_)
   ·exact nv c22
   ·revert c22;(skip);intro c22
    refine E1 ?_;refine gB ?_;refine dX ?_;refine eM ?_;refine nZ ?_;refine pC ?_;refine zX (cMf (V:=λ y:Cd×Fr×AS=>.agg ⟨y.1.cells⟩) (hs:=[(b,gH (a.Y9 a.cs))]) (os:=gK (a.Y9 a.cs)) (hs':=λ y=>[(b,gH y.2.2)]) (os':=λ y=>gK y.2.2) (Fc:=λ y=>y.2.1) (A0:=A) (f:=f) (cap:=cap) (vs:=[.int .i64 (aW a.cs x)]) (hp:=hp) (hc:=λ w1 hw=>hk (aW a.cs x) a.mm (Mm.Le.refl _) hv (a.Y9 a.cs) _ A w1 rfl ⟨ok.fit,ok.mo⟩ hm hA hB hw)) (λ x27 h27=>?_);refine Lw (jR λ _=>bS rf dC rf (eF _) eT rf lS) (λ _=>?_);refine iR ?_
    refine H4 (yW _) (by kernel_rfl) Tryz.results86 (.cell rf dC eT .nil) (λ w hw=>?_)
    exact⟨x27,rfl,⟨h27.1,h27.2.1,⟨h27.2.2.le,h27.2.2.fam⟩⟩,hw.ret (by repeat (first|exact List.Sublist.refl _|apply List.Sublist.cons)) (aY.jH λ f hf=>by simpa using hf) (List.Sublist.refl _)⟩
  ·exact nv c15
 ·revert c13;(refine cv2 ?_);intro c13
  exact(c13 rfl).elim
theorem I7{x o n:Int}{k:Bool->Tr}(hr:lW b (.jE x o n k) a.mm c a.mm B)(ok:a.Ok)(hm:a.mm.Small)(hA:∀f∈aM a.L,f∈A)(hB:∀x∈B,x∈A)(hs:SF w D [(b,gH a)] A [] (gK a) w) :
  Calls prog 86 #[.iface 42 (.pointer (some ⟨b,0,none⟩)),.agg ⟨c.cells⟩] w (Gy b (λ c' s' B'=>lW b (k (Mb a.cs x o)) ⟨a.mm.nodes,dE a.cs x o n,a.gen⟩ c' s' B') a B D w):=by
 obtain⟨_,hx,hn,f,cap,rfl,hp,hk⟩:=hr
 have hl:a.cs.length<=274877906944:=by have:=hm.2;show a.mm.cs.length<=_;omega
 have hle:a.mm.Le ⟨a.mm.nodes,dE a.cs x o n,a.gen⟩:=⟨⟨[],by simp⟩,by show a.cs.length<=(dE a.cs x o n).length;rw[fI];exact Nat.le_refl _⟩
 have hm2:Mm.Small ⟨a.mm.nodes,dE a.cs x o n,a.gen⟩:=⟨hm.1,by show(dE a.cs x o n).length<=_;rw[fI];exact hm.2⟩
 refine Tp Tryz.func86 Tryz.ntmps86 rfl rfl hs ?_
 simp only[cC]
 refine gB ?_;refine dX ?_;refine gj (λ x3=>?_);refine wC (λ x4=>?_);refine iR ?_;refine gB ?_;refine dX ?_;(refine gS dZ rfl ?_);refine G7 rfl ?_;refine iR ?_;refine gB ?_;refine dX ?_;refine eM ?_;refine gS (aT (k:=4) (vs:=(yG x o n f cap).a.cells) rf dC eT rfl rfl) rfl ?_;refine wC (λ x5=>?_);refine Qb (λ _=>?_);refine iR ?_;refine gB ?_;refine gB ?_;refine dX ?_;refine eM ?_;refine nZ ?_;refine ap ?_;refine iR ?_
 refine Kf (λ c13=>?_) (λ c13=>?_)
 ·revert c13;(refine cv1 ?_);intro c13
  exact absurd (show(2:Int)=1 from c13) (by decide)
 ·revert c13;(refine cv2 ?_);intro c13
  refine E1 ?_;refine gB ?_;refine dX ?_;refine pC ?_;refine gS (Wu rf rf (Dx _)) rfl ?_;refine pC ?_
  (refine wP ?_;refine pC ?_)
  ((refine wP ?_;refine eM ?_));((refine wP ?_;refine nZ ?_));((refine wP ?_;refine eM ?_));((refine wP ?_;refine nZ ?_));((refine wP ?_;refine eM ?_));((refine wP ?_;refine nZ ?_));((refine wP ?_;refine zX (cMI (V:=Value.bool) (os':=λ _=>gK (a.Y9 (dE a.cs x o n))) (hs':=λ _=>[(b,gH (a.Y9 (dE a.cs x o n)))]) (Fc:=λ _=>[]) (A0:=A) (hm:=λ w=>uh _ _ _ _ w) (hc:=λ w hw=>aAo hw x o n hx hl)) (λ x38 h38=>?_)));refine qo ?_;refine zJ (λ _=>?_);refine iR ?_;refine gB ?_;refine gB ?_;refine dX ?_;refine eM ?_;refine nZ ?_;refine gS (Lf rf rf (aBo _ _ _)) rfl ?_;refine iR ?_
  refine Kf (λ c42=>?_) (λ c42=>?_)
  ·exact nv c42
  ·revert c42;(skip);intro c42
   refine E1 ?_;refine gB ?_;refine dX ?_;refine eM ?_;refine nZ ?_;refine pC ?_;refine zX (cMf (V:=λ y:Cd×Fr×AS=>.agg ⟨y.1.cells⟩) (hs:=[(b,gH (a.Y9 (dE a.cs x o n)))]) (os:=gK (a.Y9 (dE a.cs x o n))) (hs':=λ y=>[(b,gH y.2.2)]) (os':=λ y=>gK y.2.2) (Fc:=λ y=>y.2.1) (A0:=A) (f:=f) (cap:=cap) (vs:=[.bool x38]) (hp:=hp) (hc:=λ w1 hw=>hk x38 _ hle (a.Y9 (dE a.cs x o n)) _ A w1 rfl (ok.Y9 hn) hm2 hA hB hw)) (λ x47 h47=>?_);refine Lw (jR λ _=>bS rf dC rf (eF _) eT rf lS) (λ _=>?_);refine iR ?_
   refine H4 (yW _) (by kernel_rfl) Tryz.results86 (.cell rf dC eT .nil) (λ w hw=>?_)
   exact⟨x47,rfl,⟨W2 h38▸h47.1,h47.2.1,⟨hle.trans h47.2.2.le,h47.2.2.fam⟩⟩,hw.ret (by repeat (first|exact List.Sublist.refl _|apply List.Sublist.cons)) (aY.jH λ f hf=>by simpa using hf) (List.Sublist.refl _)⟩
def tY(b:Nat)(p:Tr×Mm)(a:AS)(B:Fr)(y:Cd×Fr×AS):Prop:=(lW b p.1 p.2 y.1 p.2 (y.2.1++B)/\y.2.2.mm=p.2)/\y.2.2.Ok/\a.jZ y.2.2 y.2.1
theorem tY.of{t0:Tr}{s0:Mm}{y:Cd×Fr×AS}{i m:Nat}(ht:bU t0 i m)(h:lW b t0 s0 y.1 y.2.2.mm (y.2.1++B)/\y.2.2.Ok/\a.jZ y.2.2 y.2.1):tY b (Ct.gX t0 s0) a B y/\eE (Ct.gX t0 s0).1=true:=by
 obtain⟨h1,h2,h3⟩:=lW.gX ht h.1
 exact⟨⟨⟨by rw[h1];exact h3,h1.symm⟩,h.2⟩,h2⟩
theorem Pe{i m:Nat}(ht:bU t (i+1) m)(ha:eE t=true)(hlv:t.live=true)(hr:lW b t a.mm c a.mm B)(ok:a.Ok)(hm:a.mm.Small)(hA:∀f∈aM a.L,f∈A)(hB:∀x∈B,x∈A)(hs:SF w D [(b,gH a)] A [] (gK a) w) :
  Calls prog 86 #[.iface 42 (.pointer (some ⟨b,0,none⟩)),.agg ⟨c.cells⟩] w λ e w'=>∃y:Cd×Fr×AS,e=.returned (.agg ⟨y.1.cells⟩)/\(tY b (D3 (t,a.mm)) a B y/\eE (D3 (t,a.mm)).1=true)/\SF w D [(b,gH y.2.2)] [] y.2.1 (gK y.2.2) w':=by
 cases t with
 | done r=>cases hlv
 | load x k=>exact(Fq hr ok hm hA hB hs).mono λ e w' ⟨y,he,h,hw⟩=>⟨y,he,tY.of (ht _) h,hw⟩
 | jE x o n k=>exact(I7 hr ok hm hA hB hs).mono λ e w' ⟨y,he,h,hw⟩=>⟨y,he,tY.of (ht _) h,hw⟩
 | alloc n i k=>cases ha
 | cell i k=>cases ha
 | gen k=>cases ha
 | node r k=>cases ha
 | stuck=>cases ha
theorem Y8{i m:Nat}(ht:bU t (i+1) m)(ha:eE t=true)(hlv:t.live=true)(hr:lW b t a.mm c a.mm B)(ok:a.Ok)(hm:a.mm.Small)(hn:n<1000000000)(hA:∀f∈aM a.L,f∈A)(hB:∀x∈B,x∈A)(hs:SF w D [(bt,tO b c n),(b,gH a)] A [] (gK a) w) :
  Calls prog 37 #[.pointer (some ⟨bt,0,none⟩)] w λ e w'=>∃y:Cd×Fr×AS,e=.returned (.tuple #[])/\(tY b (D3 (t,a.mm)) a B y/\eE (D3 (t,a.mm)).1=true)/\SF w D [(bt,tO b y.1 (n+1)),(b,gH y.2.2)] [] y.2.1 (gK y.2.2) w':=by
 have hk:c.a.k≠0:=λ e=>by have:=(hr.kind ha).1.1 e;rw[hlv] at this;cases this
 refine enter Tryz.func37 Tryz.ntmps37 rfl rfl hs ?_
 simp only[cC]
 refine kT ?_;refine aQ (cV (hc:=λ w1 hw=>Aw (hw.st.at dC))) (λ x3=>?_);refine aA ?_
 (refine eJ 4 (λ g4=>?_) (λ g4=>?_)<;>(try (exfalso;omega))<;>((refine Ka3 ?_)))
 ((refine aE ?_;refine dF ?_));refine J6 ?_;refine cD ?_;refine aH ?_
 refine bC (λ c9=>?_) (λ c9=>?_)
 ·exact nv c9
 ·try (exfalso;omega)
  refine aZ ?_;refine J13 ?_;refine uM ?_;refine mD ?_;refine Ie ?_;refine Nz ?_;refine aV ?_;refine gZ [0,1,2,3,4,5,6,7,8,9,10,11,12] ?_;refine Wf ?_;refine J9 ?_;refine bV (i:=8) (hq:=(aT (k:=14) (vs:=c.cells) rf dC eT rfl rfl)) (h:=?_);refine bB (i:=9) (hq:=(cM (V:=λ y:Cd×Fr×AS=>.agg ⟨y.1.cells⟩) (Fc:=λ y=>y.2.1) (hs:=[(b,gH a)]) (os:=gK a) (A0:=A) (hs':=λ y=>[(b,gH y.2.2)]) (os':=λ y=>gK y.2.2) (hc:=λ w hw=>Pe ht ha hlv hr ok hm hA hB hw))) (h:=λ x29 h29=>?_);refine J4 ?_;refine kU (i:=12) (hq:=(jR λ _=>lU (off:=1) (vs:=x29.1.cells) (cs:=tkC b x29.1 (n+1) true) rf dC rf (eF _) eT (Nat.le_of_ble_eq_true rfl) rf lS)) (h:=λ _=>?_);refine eL ?_;refine zG ?_;refine Nz ?_
  refine Cq Tryz.results37 (λ w hw=>?_)
  exact⟨x29,rfl,h29,hw.ret (List.Sublist.refl _) (aY.jH λ f hf=>by simpa using hf) (List.Sublist.refl _)⟩
theorem m4{i m:Nat}(ht:bU t i m)(h:Th0 b t a.mm f cap B)(ok:a.Ok)(hm:a.mm.Small)(hA:∀f∈aM a.L,f∈A)(hB:∀x∈B,x∈A)(hs:SF w D [(b,gH a)] A [] (gK a) w) :
  Calls prog 73 #[.iface 42 (.pointer (some ⟨b,0,none⟩)),.func (.func f) #[] ⟨cap⟩] w λ e w'=>∃x:Nat×Cd×Fr×AS,e=.returned (.pointer (some ⟨x.1,0,none⟩))/\(tY b (Ct.gX t a.mm) a B x.2/\eE (Ct.gX t a.mm).1=true)/\SF w D [(x.1,tO b x.2.1 0),(b,gH x.2.2.2)] [] x.2.2.1 (gK x.2.2.2) w':=by
 refine enter Tryz.func73 Tryz.ntmps73 rfl rfl hs ?_
 simp only[cC]
 refine Kc5 ?_;refine bN ?_;refine bM (λ x8=>?_);refine zS ?_;refine aD (cM (V:=λ y:Cd×Fr×AS=>.agg ⟨y.1.cells⟩) (Fc:=λ y=>y.2.1) (hs:=[(b,gH a)]) (os:=gK a) (A0:=A) (hs':=λ y=>[(b,gH y.2.2)]) (os':=λ y=>gK y.2.2) (hc:=λ w1 hw=>ng h ok hm hA hB hw)) (λ x11 h11=>?_);refine Nu ?_;refine dA (jR λ _=>lU (off:=1) (vs:=x11.1.cells) (cs:=tkC b x11.1 0 false) rf dC rf (eF _) eT (Nat.le_of_ble_eq_true rfl) rf lS) (λ _=>?_);refine aH ?_;refine Ka4 ?_
 refine aR Tryz.results73 (λ w hw=>?_)
 exact⟨(x8,x11),rfl,tY.of ht h11,hw.ret (List.Sublist.refl _) (aY.jH λ f hf=>by simpa using hf) (List.Sublist.refl _)⟩
end
end
end Go.Proofs.YtbajmaoegmbfgaaGreat
