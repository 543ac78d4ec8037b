/- Merged. -/
import Derived.Test.YtbajmaoegmbfgaaGreatGIxg
import Derived.Test.YtbajmaoegmbfgaaGreatGJoin
import Derived.Test.YtbajmaoegmbfgaaGreatGWo4
import Derived.Test.YtbajmaoegmbfgaaGreatGAr4
import Derived.Test.YtbajmaoegmbfgaaGreatGRn1
import Derived.Test.YtbajmaoegmbfgaaGreatGWo6
import Derived.Test.YtbajmaoegmbfgaaGreatGBr5
set_option linter.unusedSimpArgs false
set_option linter.unusedVariables false
namespace Go.Proofs.YtbajmaoegmbfgaaGreat
open Go.Proofs.Tryz
open Go Go.RowKit Go.Ct
section
variable{n:Nat}{Q:Exit->Act->World->Prop}{ks:List CK}{S:List (Nat×Value)}{ops:Array Oper}{l ol:List Oper}{pl:qU}{LL:List Nat}{Dl Dp Dq:List Nat}
variable{w0:World}{M:List Nat}{H:List (Nat×Obj)}{A F:Fr}{O:List Ow}{G:World->Prop}{i d:Nat}{v:Value}{op:Op}{ty:TypeId}{pos:String}{af:Array Edge}{gd:Option (Nat×Bool)}{X:Type}{V:X->Value}{G':X->World->Prop}{j g:Nat}{want t:Bool}
variable{ds:List Deferred}
theorem qB(h:LD prog n ds Q ks ops l ((d,v)::S) G)(hq:aL prog S G ⟨some d,op,ty,pos,af,none⟩ v:=by exact Td wn)(hd:Nat.blt d n=true:=by exact rfl):LD prog n ds Q ks ops (⟨some d,op,ty,pos,af,none⟩::l) S G:=gX hq hd h
theorem va(h:LD prog n ds Q ks ops l ((d,v)::S) G)(hq:aL prog S G ⟨some d,op,ty,pos,af,none⟩ v:=by first|exact Gc rf wn|exact He rf wn|exact o_pick_b rf rf rf)(hd:Nat.blt d n=true:=by exact rfl):LD prog n ds Q ks ops (⟨some d,op,ty,pos,af,none⟩::l) S G:=gX hq hd h
theorem eR(h:LD prog n ds Q ks ops l ((d,v)::S) G)(hq:aL prog S G ⟨some d,op,ty,pos,af,none⟩ v:=by first|exact tT rf fl1|exact rZ rf fl1)(hd:Nat.blt d n=true:=by exact rfl):LD prog n ds Q ks ops (⟨some d,op,ty,pos,af,none⟩::l) S G:=gX hq hd h
theorem oE(h:LD prog n ds Q ks ops l ((d,v)::S) G)(hq:aL prog S G ⟨some d,op,ty,pos,af,none⟩ v:=by exact N6)(hd:Nat.blt d n=true:=by exact rfl):LD prog n ds Q ks ops (⟨some d,op,ty,pos,af,none⟩::l) S G:=gX hq hd h
theorem jv(h:LD prog n ds Q ks ops l ((d,v)::S) G)(hq:aL prog S G ⟨some d,op,ty,pos,af,none⟩ v:=by exact ns)(hd:Nat.blt d n=true:=by exact rfl):LD prog n ds Q ks ops (⟨some d,op,ty,pos,af,none⟩::l) S G:=gX hq hd h
theorem jm(h:∀x,LD prog n ds Q ks ops l ((d,V x)::S) (G' x))(hq:bE prog S G ⟨some d,op,ty,pos,af,none⟩ X V G':=by first|exact gE λ _=>Wq rf|exact gE λ _=>Mc rf rfl)(hd:Nat.blt d n=true:=by exact rfl):LD prog n ds Q ks ops (⟨some d,op,ty,pos,af,none⟩::l) S G:=Ft hq hd h
theorem wN(h:∀x,LD prog n ds Q ks ops l ((d,V x)::S) (G' x))(hq:bE prog S G ⟨some d,op,ty,pos,af,none⟩ X V G':=by exact Fo)(hd:Nat.blt d n=true:=by exact rfl):LD prog n ds Q ks ops (⟨some d,op,ty,pos,af,none⟩::l) S G:=Ft hq hd h
theorem Ad(h:∀x,LD prog n ds Q ks ops l ((d,V x)::S) (G' x))(hq:bE prog S G ⟨some d,op,ty,pos,af,none⟩ X V G':=by exact eO (Bm wn))(hd:Nat.blt d n=true:=by exact rfl):LD prog n ds Q ks ops (⟨some d,op,ty,pos,af,none⟩::l) S G:=Ft hq hd h
theorem P1(h:∀x,LD prog n ds Q ks ops l S (G' x))(hq:bE prog S G ⟨none,op,ty,pos,af,none⟩ X V G':=by exact L9):LD prog n ds Q ks ops (⟨none,op,ty,pos,af,none⟩::l) S G:=Sj hq h
theorem Bh{φ:X->Prop}(hq:bE prog S G ⟨some d,op,ty,pos,af,none⟩ X V (λ x w=>φ x/\G' x w))(h:∀x,φ x->LD prog n ds Q ks ops l ((d,V x)::S) (G' x))(hd:Nat.blt d n=true:=by exact rfl):LD prog n ds Q ks ops (⟨some d,op,ty,pos,af,none⟩::l) S G:=Ft hq hd λ x=>we (h x)
theorem Ou(hq:bE prog S G ⟨none,op,ty,pos,af,none⟩ X V G')(h:∀x,LD prog n ds Q ks ops l S (G' x)):LD prog n ds Q ks ops (⟨none,op,ty,pos,af,none⟩::l) S G:=Sj hq h
theorem wU(h:LD prog n ds Q ks ops (⟨some d,op,ty,pos,af,none⟩::l) S G)(hj:(ops[j]?).bind (·.dst)=some g:=by exact rfl)(hg:Ct.look S g=.bool want:=by exact rfl):LD prog n ds Q ks ops (⟨some d,op,ty,pos,af,some (j,want)⟩::l) S G:=Yw hj hg h
end
end Go.Proofs.YtbajmaoegmbfgaaGreat
namespace Go.Ct
open Go Go.RowKit
section
abbrev Clo:=Option (FuncId×List Value)
abbrev fnV:Clo->Value
 | none=>.nilFunc
 | some p=>.func (.func p.1) #[] ⟨p.2⟩
structure Cd where
 a:Ac
 f:Clo
 g:Clo
 r:Rs
abbrev Cd.cells(c:Cd):List Value:=[.int .i64 c.a.k,.int .i64 c.a.c,.int .i64 c.a.o,.int .i64 c.a.n,fnV c.f,fnV c.g,.int .i64 c.r.err,.bool c.r.found,.int .u64 c.r.val,.string c.r.key,.int .i64 c.r.fP,.int .i64 c.r.ref,.int .i64 c.r.root,.bool c.r.ro]
abbrev iD(r:Rs):Cd:=⟨⟨0,0,0,0⟩,none,none,r⟩
abbrev nQ(c:Int)(f:FuncId)(cap:List Value):Cd:=⟨⟨1,c,0,0⟩,some (f,cap),none,⟨0,false,0,⟨#[]⟩,0,0,0,false⟩⟩
abbrev xJ(c o n:Int)(g:FuncId)(cap:List Value):Cd:=⟨⟨2,c,o,n⟩,none,some (g,cap),⟨0,false,0,⟨#[]⟩,0,0,0,false⟩⟩
theorem cD(c:Cd):c.cells.all (·.oneCell')=true:=by obtain⟨a,f,g,r⟩:=c;cases f<;>cases g<;>rfl
def jj(cs:List Int)(c o:Int):Bool:=decide (1<=c/\c<=(cs.length:Int)/\cs.getD (c-1).toNat 0=o)
theorem Xn{cs:List Int}{c o:Int}{r:Bool}(h:r=true↔iJ cs c o):r=jj cs c o:=by rw[Bool.eq_iff_iff,h];unfold jj iJ;rw[decide_eq_true_eq]
end
end Go.Ct
namespace Go.Proofs.YtbajmaoegmbfgaaGreat
open Go.Proofs.Tryz
section
open Go.RowKit Go.Ct
theorem Mj(r:Rs)(w:World):Calls prog 77 #[.agg ⟨r.cells⟩] w λ e w'=>e=.returned (.agg ⟨(iD r).cells⟩)/\St w [] [] w':=by refine enter func77 ntmps77 rfl rfl (SF.s0 w) ?_;simp only[cC];refine J0 ?_;refine bL (λ x1=>?_);refine aJ (λ x2=>?_);refine aG ?_;refine nG ?_;refine xX ?_;refine aY results77 (λ w hw=>?_);exact⟨rfl,hw.done⟩
theorem oH(c:Int)(f:FuncId)(cap:List Value)(w:World):Calls prog 130 #[.int .i64 c,.func (.func f) #[] ⟨cap⟩] w λ e w'=>e=.returned (.agg ⟨(nQ c f cap).cells⟩)/\St w [] [] w':=by refine enter func130 ntmps130 rfl rfl (SF.s0 w) ?_;simp only[cC];refine K0q ?_;intro x4;refine J2 ?_;refine bN ?_;refine aA ?_;refine xX ?_;refine aY results130 (λ w hw=>?_);exact⟨rfl,hw.done⟩
theorem xV(c o n:Int)(f:FuncId)(cap:List Value)(w:World):Calls prog 119 #[.int .i64 c,.int .i64 o,.int .i64 n,.func (.func f) #[] ⟨cap⟩] w λ e w'=>e=.returned (.agg ⟨(xJ c o n f cap).cells⟩)/\St w [] [] w':=by refine enter func119 ntmps119 rfl rfl (SF.s0 w) ?_;simp only[cC];refine J0 ?_;refine aJ (λ x8=>?_);refine aG ?_;refine Kc0 ?_;refine bN ?_;refine aA ?_;refine xX ?_;refine aY results119 (λ w hw=>?_);exact⟨rfl,hw.done⟩
end
section
open Go Go.RowKit Go.Ct
theorem rq(p:Option Addr)(a:Value)(w:World):(callMethod (.iface 42 (.pointer p)) "Load" #[a]).run prog w=.ok (.enter 35 #[.pointer p,a]) w:=by kernel_rfl
theorem vh(p:Option Addr)(a b c:Value)(w:World):(callMethod (.iface 42 (.pointer p)) "CAS" #[a,b,c]).run prog w=.ok (.enter 279 #[.pointer p,a,b,c]) w:=by kernel_rfl
theorem Eu(p:Option Addr)(w:World):(binOp .neq 123 (.iface 42 (.pointer p)) .nilIface).run prog w=.ok (.bool true) w:=by kernel_rfl
theorem aD2(f:Fn)(a b:Array Value)(w:World):(binOp .eql 135 (.func f a b) .nilFunc).run prog w=.ok (.bool false) w:=by kernel_rfl
theorem aCP(f:Fn)(a b:Array Value)(w:World):(binOp .eql 129 (.func f a b) .nilFunc).run prog w=.ok (.bool false) w:=by kernel_rfl
theorem aDU(f:Fn)(a b:Array Value)(w:World):(binOp .eql 130 (.func f a b) .nilFunc).run prog w=.ok (.bool false) w:=by kernel_rfl
theorem Tg(p:Option Addr):Idle prog 161 #[.pointer p]:=λ w=>by refine callsD_of_wpS func161 rfl λ c₀ cs hu=>?_;apply wpS_seq;apply wpS_region;simp[wpOpsS,go_sem,recoverD,hu,ntmps161,Exit.thenS];refine wpS_cond (t:=false) (by simp[Act.eval,Array.replicate]) ?_;simp only[Bool.false_eq_true,if_false];refine wpS_of_wp (wp_skip ?_);cases c₀;simp_all[bodyPostS,results,results161]
theorem zJ(p:Option Addr):Idle prog 129 #[.pointer p]:=λ w=>by refine callsD_of_wpS func129 rfl λ c₀ cs hu=>?_;apply wpS_seq;apply wpS_region;simp[wpOpsS,go_sem,recoverD,hu,ntmps129,Exit.thenS];refine wpS_cond (t:=false) (by simp[Act.eval,Array.replicate]) ?_;simp only[Bool.false_eq_true,if_false];refine wpS_of_wp (wp_skip ?_);cases c₀;simp_all[bodyPostS,results,results129]
section
variable{S:List (Nat×Value)}{w0 w:World}{M:List Nat}{H:List (Nat×Obj)}{A F:Fr}{O:List Ow}{ty:TypeId}{pos:String}{af:Array Edge}{gd:Option (Nat×Bool)}{X:Type}{V:X->Value}
end
end
section
open Go Go.RowKit Go.Ct
section
variable{S:List (Nat×Value)}{w0 w:World}{M:List Nat}{H:List (Nat×Obj)}{A F:Fr}{O:List Ow}{ty:TypeId}{pos:String}{af:Array Edge}{gd:Option (Nat×Bool)}{X:Type}{V:X->Value}
end
end
end Go.Proofs.YtbajmaoegmbfgaaGreat
namespace Go.Ct
open Go Go.RowKit
section
structure AS where
 L:List aR
 cs:List Int
 gen:Int
 acc:Int
 pn:Option Addr
 cn:Nat
 pc:Option Addr
 cc:Nat
def AS.mm(a:AS):Mm:=⟨(cO a.L).map aR.c,a.cs,a.gen⟩
structure Z7(s:Mm):Prop where
 nd:∀v∈s.nodes,mT s.nodes.length s.cs.length v
 cs:∀v∈s.cs,v<=s.nodes.length
 two:2<=s.nodes.length
structure AS.Ok(a:AS):Prop where
 fit:Fits a.L
 mo:Z7 a.mm
structure Mm.Le(s s1:Mm):Prop where
 nodes:∃N,s1.nodes=s.nodes++N
 cl:s.cs.length<=s1.cs.length
def Mm.Small(s:Mm):Prop:=s.nodes.length<=137438953472/\s.cs.length<=137438953472
structure AS.iL(a a':AS)(F:Fr):Prop where
 le:a.mm.Le a'.mm
 fam:∀f∈aP a'.L,f.2=[]∨f∈aP a.L∨f∈F
variable{s t:Mm}{a:AS}{F:Fr}
theorem Mm.Le.refl(s:Mm):s.Le s:=⟨⟨[],by simp⟩,Nat.le_refl _⟩
theorem Mm.Le.trans{u:Mm}(h:s.Le t)(h2:t.Le u):s.Le u:=by obtain⟨⟨N,e⟩,c⟩:=h;obtain⟨⟨M,e2⟩,c2⟩:=h2;exact⟨⟨N++M,by rw[e2,e,List.append_assoc]⟩,Nat.le_trans c c2⟩
theorem Mm.Le.len(h:s.Le t):s.nodes.length<=t.nodes.length:=by obtain⟨N,e⟩:=h.nodes;rw[e,List.length_append];omega
theorem Mm.Le.nd(h:s.Le t){r:Int}(hr:r<=s.nodes.length):bH t.nodes r=bH s.nodes r:=by obtain⟨N,e⟩:=h.nodes;rw[e];exact I2 hr
theorem AS.iL.refl(a:AS):a.iL a []:=⟨Mm.Le.refl _,λ f hf=>.inr (.inl hf)⟩
theorem AS.iL.more{a':AS}{F':Fr}(h:a.iL a' F)(hs:∀f∈F,f∈F'):a.iL a' F':=⟨h.le,λ f hf=>(h.fam f hf).imp_right λ h=>h.imp_right λ h=>hs f h⟩
theorem AS.iL.trans{a b c:AS}{F G:Fr}(h:a.iL b F)(h2:b.iL c G):a.iL c (G++F):=⟨h.le.trans h2.le,λ f hf=>by
 rcases h2.fam f hf with h1|h1|h1;·exact .inl h1
 ·rcases h.fam f h1 with h1|h1|h1;·exact .inl h1
  ·exact .inr (.inl h1)
  ·exact .inr (.inr (List.mem_append_right _ h1))
 ·exact .inr (.inr (List.mem_append_left _ h1))⟩
theorem Z7.at(h:Z7 s)(r:Int):mT s.nodes.length s.cs.length (bH s.nodes r):=by
 unfold bH;split;·refine h.nd _ ?_;rw[jA,List.getElem?_eq_getElem (by omega)];exact List.getElem_mem _
 ·exact Sn _ _
theorem Z7.cell(h:Z7 s)(c:Int):bJ s.cs c<=s.nodes.length:=by
 unfold bJ;split;·exact mV h.cs _
 ·exact bM _
theorem Z7.kH(h:Z7 s){c o n:Int}(hn:n<=s.nodes.length):Z7 ⟨s.nodes,eK s.cs c o n,s.gen⟩:=by
 refine⟨λ v hv=>by simp only[gN];exact h.nd v hv,λ v hv=>?_,h.two⟩;simp only[eK] at hv;split at hv
 ·rcases List.mem_or_eq_of_mem_set hv with hv|rfl;·exact h.cs v hv
  ·exact hn
 ·exact h.cs v hv
def eD:Tr->Mm->Tr×Mm
 | .alloc n i k,s=>eD (k ((s.nodes.length+1:Nat):Int)) (s.push n i)
 | .cell i k,s=>eD (k ((s.cs.length+1:Nat):Int)) ⟨s.nodes,s.cs++[i],s.gen⟩
 | .gen k,s=>eD (k (s.gen+1)) ⟨s.nodes,s.cs,s.gen+1⟩
 | .node r k,s=>eD (k (bH s.nodes r)) s
 | t,s=>(t,s)
def nxT:Tr->Mm->Tr×Mm
 | .load c k,s=>(k (bJ s.cs c),s)
 | .kH c o n k,s=>(k (jj s.cs c o),⟨s.nodes,eK s.cs c o n,s.gen⟩)
 | t,s=>(t,s)
def D6(p:Tr×Mm):Tr×Mm:=eD (nxT p.1 p.2).1 (nxT p.1 p.2).2
def Tr.live:Tr->Bool
 | .done _=>false
 | _=>true
def jC(p:Tr×Mm):Nat->Tr×Mm
 | 0=>p
 | k+1=>D6 (jC p k)
theorem aCE{t t':Tr}{s s':Mm}(h:Lp t s t' s'):nxT t s=(t',s')/\∀u,eD t u=(t,u):=by
 cases h with
 | load c k s=>exact⟨rfl,λ _=>rfl⟩
 | kH c o n k s b hb=>rw[Xn hb];exact⟨rfl,λ _=>rfl⟩
theorem ml{t t':Tr}{s s':Mm}(h:Sp t s t' s'):eD t s=eD t' s':=by cases h<;>rfl
theorem ou{j:Nat}{t t':Tr}{s s':Mm}(h:Rc j t s t' s'):(j=0->eD t s=eD t' s')/\(j=1->D6 (eD t s)=eD t' s'):=by
 induction h with
 | refl t s=>exact⟨λ _=>rfl,λ h=>nomatch h⟩
 | eD _ hs ih=>exact⟨λ e=>(ih.1 e).trans (ml hs),λ e=>(ih.2 e).trans (ml hs)⟩
 | loud _ hs ih=>refine⟨(λ e=>nomatch e),λ e=>?_⟩;obtain⟨h1,h2⟩:=aCE hs;rw[ih.1 (by omega),h2];unfold D6;rw[h1]
theorem oF(p:Tr×Mm)(j:Nat):∀k,jC p (j+k)=jC (jC p j) k
 | 0=>rfl
 | k+1=>by show D6 (jC p (j+k))=_;rw[oF p j k];rfl
end
end Go.Ct
namespace Go.Proofs.YtbajmaoegmbfgaaGreat
open Go.Proofs.Tryz
open Go Go.RowKit Go.Ct
section
variable{t t':Tr}{s s':Mm}
theorem Jb(h:dL t=true)(s:Mm):eD t s=(t,s):=by cases t<;>first|rfl|cases h
theorem aBe(h:Rc 0 t s t' s')(ha:dL t'=true):eD t s=(t',s'):=by rw[(ou h).1 rfl,Jb ha]
theorem aAO(h:Rc 1 t s t' s')(h0:dL t=true)(ha:dL t'=true):D6 (t,s)=(t',s'):=by rw[<- Jb h0 s,(ou h).2 rfl,Jb ha]
abbrev fR(a:AS):Obj:=aO a.L a.cs a.gen a.acc a.pn a.cn a.pc a.cc
abbrev gD(a:AS):List Ow:=mW a.L a.cs a.pn a.cn a.pc a.cc
def Ag(b:Nat)(R:Cd->Mm->Fr->Prop)(a:AS)(B:Fr)(D:List Nat)(w:World):Ending->World->Prop:=λ e w'=>∃y:Cd×Fr×AS,e=.returned (.agg ⟨y.1.cells⟩)/\(R y.1 y.2.2.mm (y.2.1++B)/\y.2.2.Ok/\a.iL y.2.2 y.2.1)/\SF w D [(b,fR y.2.2)] [] y.2.1 (gD y.2.2) w'
def Dr(b:Nat)(f:FuncId)(cap:List Value)(arg:List Value)(B:Fr)(s:Mm)(R:Cd->Mm->Fr->Prop):Prop :=∀(a:AS) (D:List Nat) (A:Fr) (w:World),a.mm=s->a.Ok->s.Small->(∀f∈aP a.L,f∈A)->(∀f∈B,f∈A)->SF w D [(b,fR a)] A [] (gD a) w->Calls prog f ⟨arg++cap⟩ w (Ag b R a B D w)
def jS(b:Nat):Tr->Mm->Cd->Mm->Fr->Prop
 | .done r,s,c,s2,_=>s2=s/\c=iD r
 | .load x k,s,c,s2,B=>s2=s/\x<=9223372036854775807/\∃f cap,c=nQ x f cap/\plain prog f=true/\∀(v:Int) (s1:Mm),s.Le s1->v<=s1.nodes.length->Dr b f cap [.int .i64 v] B s1 λ c' s' B'=>jS b (k v) s1 c' s' B'
 | .kH x o n k,s,c,s2,B=>s2=s/\x<=9223372036854775807/\n<=s.nodes.length/\∃f cap,c=xJ x o n f cap/\plain prog f=true/\∀(v:Bool) (s1:Mm),s.Le s1->Dr b f cap [.bool v] B s1 λ c' s' B'=>jS b (k v) s1 c' s' B'
 | .alloc n i k,s,c,s2,B=>jS b (k ((s.nodes.length+1:Nat):Int)) (s.push n i) c s2 B
 | .cell i k,s,c,s2,B=>jS b (k ((s.cs.length+1:Nat):Int)) ⟨s.nodes,s.cs++[i],s.gen⟩ c s2 B
 | .gen k,s,c,s2,B=>jS b (k (s.gen+1)) ⟨s.nodes,s.cs,s.gen+1⟩ c s2 B
 | .node r k,s,c,s2,B=>r<=s.nodes.length/\jS b (k (bH s.nodes r)) s c s2 B
 | .stuck,_,_,_,_=>True
def As(b:Nat)(K:Int->Tr)(s:Mm)(f:FuncId)(cap:List Value)(B:Fr):Prop:=plain prog f=true/\∀(v:Int) (s1:Mm),s.Le s1->v<=s1.nodes.length->Dr b f cap [.int .i64 v] B s1 λ c' s' B'=>jS b (K v) s1 c' s' B'
def uw(b:Nat)(K:Bool->Tr)(s:Mm)(f:FuncId)(cap:List Value)(B:Fr):Prop:=plain prog f=true/\∀(v:Bool) (s1:Mm),s.Le s1->Dr b f cap [.bool v] B s1 λ c' s' B'=>jS b (K v) s1 c' s' B'
def Zh(b:Nat)(t:Tr)(s:Mm)(f:FuncId)(cap:List Value)(B:Fr):Prop:=plain prog f=true/\∀s1:Mm,s.Le s1->Dr b f cap [] B s1 λ c' s' B'=>jS b t s1 c' s' B'
section
variable{b:Nat}{f:FuncId}{cap arg:List Value}{B B2:Fr}{s s1 s2:Mm}{t:Tr}{c:Cd}
theorem Dr.more{R R2:Cd->Mm->Fr->Prop}(h:Dr b f cap arg B s R)(hb:∀x∈B,x∈B2)(hR:∀c m C C2,(∀x∈C,x∈C2)->R c m C->R2 c m C2):Dr b f cap arg B2 s R2:=λ a D A w e1 ok hs h1 h2 hw =>
 (h a D A w e1 ok hs h1 (λ x hx=>h2 x (hb x hx)) hw).mono λ e w' ⟨y,he,⟨hr,h3⟩,hs⟩=>⟨y,he,⟨hR _ _ _ _ (λ x hx=>by
  rcases List.mem_append.1 hx with h1|h1;·exact List.mem_append_left _ h1
  ·exact List.mem_append_right _ (hb x h1)) hr,h3⟩,hs⟩
theorem jS.more:∀{t:Tr} {s s2:Mm} {c:Cd} {B B2:Fr},jS b t s c s2 B->(∀x∈B,x∈B2)->jS b t s c s2 B2
 | .done _,_,_,_,_,_,h,_=>h
 | .load _ k,_,_,_,_,_,⟨h0,h1,f,cap,h2,h3,h4⟩,hb=>⟨h0,h1,f,cap,h2,h3,λ v s1 l hv=>(h4 v s1 l hv).more hb λ _ _ _ _ hC h=>jS.more (t:=k v) h hC⟩
 | .kH _ _ _ k,_,_,_,_,_,⟨h0,h1,hn,f,cap,h2,h3,h4⟩,hb=>⟨h0,h1,hn,f,cap,h2,h3,λ v s1 l=>(h4 v s1 l).more hb λ _ _ _ _ hC h=>jS.more (t:=k v) h hC⟩
 | .alloc n i k,s,_,_,_,_,h,hb=>jS.more (t:=k ((s.nodes.length+1:Nat):Int)) h hb
 | .cell i k,s,_,_,_,_,h,hb=>jS.more (t:=k ((s.cs.length+1:Nat):Int)) h hb
 | .gen k,s,_,_,_,_,h,hb=>jS.more (t:=k (s.gen+1)) h hb
 | .node r k,s,_,_,_,_,h,hb=>⟨h.1,jS.more (t:=k (bH s.nodes r)) h.2 hb⟩
 | .stuck,_,_,_,_,_,_,_=>trivial
theorem As.more{K:Int->Tr}(h:As b K s f cap B)(hb:∀x∈B,x∈B2):As b K s f cap B2:=⟨h.1,λ v s1 l hv=>(h.2 v s1 l hv).more hb λ _ _ _ _ hC h=>jS.more h hC⟩
theorem uw.more{K:Bool->Tr}(h:uw b K s f cap B)(hb:∀x∈B,x∈B2):uw b K s f cap B2:=⟨h.1,λ v s1 l=>(h.2 v s1 l).more hb λ _ _ _ _ hC h=>jS.more h hC⟩
theorem Zh.more(h:Zh b t s f cap B)(hb:∀x∈B,x∈B2):Zh b t s f cap B2:=⟨h.1,λ s1 l=>(h.2 s1 l).more hb λ _ _ _ _ hC h=>jS.more h hC⟩
theorem As.le{K:Int->Tr}(h:As b K s f cap B)(l:s.Le s1):As b K s1 f cap B:=⟨h.1,λ v s2 l2 hv=>h.2 v s2 (l.trans l2) hv⟩
theorem uw.le{K:Bool->Tr}(h:uw b K s f cap B)(l:s.Le s1):uw b K s1 f cap B:=⟨h.1,λ v s2 l2=>h.2 v s2 (l.trans l2)⟩
theorem Zh.le(h:Zh b t s f cap B)(l:s.Le s1):Zh b t s1 f cap B:=⟨h.1,λ s2 l2=>h.2 s2 (l.trans l2)⟩
theorem jS.kind(h:jS b t s c s2 B)(ha:dL t=true):(c.a.k=0↔t.live=false)/\(∀r,t=.done r->c.r=r)/\(∀x,t.acc=some x->c.a=x):=by
 cases t with
 | done r=>rw[h.2];exact⟨⟨λ _=>rfl,λ _=>rfl⟩,(λ r e=>by cases e;rfl),(λ x e=>nomatch e)⟩
 | load x k=>obtain⟨_,_,f,cap,e,_⟩:=h;rw[e];exact⟨⟨λ h=>absurd h (show(1:Int)≠0 by decide),(λ h=>nomatch h)⟩,(λ r e=>nomatch e),λ x e=>by cases e;rfl⟩
 | kH x o n k=>obtain⟨_,_,_,f,cap,e,_⟩:=h;rw[e];exact⟨⟨λ h=>absurd h (show(2:Int)≠0 by decide),(λ h=>nomatch h)⟩,(λ r e=>nomatch e),λ x e=>by cases e;rfl⟩
 | alloc n i k=>cases ha
 | cell i k=>cases ha
 | gen k=>cases ha
 | node r k=>cases ha
 | stuck=>cases ha
theorem jS.eD:∀{t:Tr} {s s2:Mm} {c:Cd} {n m:Nat},bV t n m->jS b t s c s2 B->(eD t s).2=s2/\dL (eD t s).1=true/\jS b (eD t s).1 s2 c s2 B
 | .done _,_,_,_,_,_,_,h=>by obtain⟨rfl,h2⟩:=h;exact⟨rfl,rfl,rfl,h2⟩
 | .load _ k,_,_,_,_,_,_,h=>by obtain⟨rfl,h2⟩:=h;exact⟨rfl,rfl,rfl,h2⟩
 | .kH _ _ _ k,_,_,_,_,_,_,h=>by obtain⟨rfl,h2⟩:=h;exact⟨rfl,rfl,rfl,h2⟩
 | .alloc n i k,s,_,_,_,0,ht,h=>ht.elim
 | .alloc n i k,s,_,_,_,_+1,ht,h=>jS.eD (t:=k ((s.nodes.length+1:Nat):Int)) (ht _) h
 | .cell i k,s,_,_,_,0,ht,h=>ht.elim
 | .cell i k,s,_,_,_,_+1,ht,h=>jS.eD (t:=k ((s.cs.length+1:Nat):Int)) (ht _) h
 | .gen k,s,_,_,_,0,ht,h=>ht.elim
 | .gen k,s,_,_,_,_+1,ht,h=>jS.eD (t:=k (s.gen+1)) (ht _) h
 | .node r k,s,_,_,_,_,ht,h=>jS.eD (t:=k (bH s.nodes r)) (ht _) h.2
 | .stuck,_,_,_,_,_,ht,_=>ht.elim
end
section
variable{S:List (Nat×Value)}{w0 w:World}{M:List Nat}{H:List (Nat×Obj)}{A F:Fr}{O:List Ow}{ty:TypeId}{pos:String}{af:Array Edge}{gd:Option (Nat×Bool)}{X:Type}{V:X->Value}
theorem cMf{φ:X->Prop}{hs H':List (Nat×Obj)}{os O':List Ow}{hs' H1:X->List (Nat×Obj)}{os' O1:X->List Ow}{Fc F1:X->Fr}{A0:Fr}{is js:List Nat}{f:FuncId}{cap:List Value}{xs:List Operand}{at_:Array TypeId}{vs:List Value}{dst:Option Nat}{x:Operand}
  (hx:ev S x=.func (.func f) #[] ⟨cap⟩:=by exact rfl) (ha:rF S xs=vs:=by(repeat (first|exact cN _|(apply cA;focus ((conv=>{lhs;whnf});try exact rfl))));first|done|fail) (hp:plain prog f=true)
  (hc:∀w,SF w (Ks hs os) hs A0 [] os w->Calls prog f ⟨vs++cap⟩ w λ e w'=>∃x,e=.returned (V x)/\φ x/\SF w (Ks hs os) (hs' x) [] (Fc x) (os' x) w')
  (hH:oG H is hs H':=by(repeat (first|exact oG.nil|(apply oG.cons;(focus ((repeat (first|exact B8.head|apply B8.tail));done));simp only[sS])));first|done|fail)
  (hO:oG O js os O':=by(repeat (first|exact oG.nil|(apply oG.cons;(focus ((repeat (first|exact B8.head|apply B8.tail));done));simp only[sS])));first|done|fail)
  (hA:bG A F O' A0:=by exact bG.of (λ _ h=>Or.inr (Or.inl h)))
  (hl1:∀x,is.length=(hs' x).length:=by intro x;exact rfl) (hl2:∀x,js.length=(os' x).length:=by intro x;exact rfl)
  (hH1:∀x,kG is (hs' x) H'=H1 x:=by intro x;first|(simp only[kG,uE];exact rfl)|exact rfl) (hF1:∀x,Fc x++F=F1 x:=by intro x;first|(simp only[List.nil_append,List.cons_append];exact rfl)|exact rfl) (hO1:∀x,kG js (os' x) O'=O1 x:=by intro x;simp only[kG,uE,mW];exact rfl) :
  bE prog S (SF w0 M H A F O) ⟨dst,.call {callee:=.value x,args:=⟨xs⟩,argTypes:=at_},ty,pos,af,gd⟩ X V (λ x w=>φ x/\SF w0 M (H1 x) A (F1 x) (O1 x) w) :=
 iE (yz hx hp ha) λ w hw=>(hc w (hw.sX hH hO hA)).mono λ _ _ ⟨x,he,hx,hs⟩=>⟨x,he,hx,by have:=hw.Bq (hs':=hs' x) (Hc:=[]) (os':=os' x) (Oc:=[]) hH hO (by simpa using hs) (hl1 x) (hl2 x);rw[<- hH1 x,<- hF1 x,<- hO1 x];simpa using this⟩
end
end
end Go.Proofs.YtbajmaoegmbfgaaGreat
namespace Go.Ct
open Go Go.RowKit
section
theorem SF.same{w w':World}{b:Nat}{o:Obj}(h:SF w [b] [(b,o)] [] [] [] w')(hb:w.heap[b]?=some o):St w [] [] w' :=
 ⟨h.st.os,h.st.tape,h.st.output,h.st.size,λ k hk _=>by
  by_cases e:k=b;·subst e;rw[h.st.has (k,o) (List.mem_singleton.2 rfl),hb]
  ·exact h.st.lB k hk (by simpa using e),λ _ h=>(List.not_mem_nil h).elim,λ _ h=>(List.not_mem_nil h).elim,List.nodup_nil⟩
theorem SF.aAa{w:World}{b:Nat}{o:Obj}(hb:w.heap[b]?=some o):SF w [b] [(b,o)] [] [] [] w :=⟨⟨rfl,rfl,rfl,Nat.le_refl _,λ _ _ _=>rfl,λ p hp=>by rw[List.mem_singleton.1 hp];exact hb,λ p hp=>by rw[List.mem_singleton.1 hp];exact .inl (List.mem_singleton.2 rfl),by simp⟩,λ _ h=>(List.not_mem_nil h).elim,λ _ h=>(List.not_mem_nil h).elim,λ _ h=>(List.not_mem_nil h).elim,by simp[Ks]⟩
end
end Go.Ct
namespace Go.Proofs.YtbajmaoegmbfgaaGreat
open Go.Proofs.Tryz
open Go Go.RowKit Go.Ct
section
abbrev tkC(b:Nat)(c:Cd)(n:Nat)(z:Bool):List Value:=[.iface 42 (.pointer (some ⟨b,0,none⟩)),.int .i64 c.a.k,.int .i64 c.a.c,.int .i64 c.a.o,.int .i64 c.a.n,fnV c.f,fnV c.g,.int .i64 c.r.err,.bool c.r.found,.int .u64 c.r.val,.string c.r.key,.int .i64 c.r.fP,.int .i64 c.r.ref,.int .i64 c.r.root,.bool c.r.ro,.int .i64 ((n:Nat):Int),.bool z]
abbrev tO(b:Nat)(c:Cd)(n:Nat):Obj:=.cells ⟨tkC b c n false⟩ 141 (0,0)
section
variable{D:List Nat}{A B:Fr}{L:List aR}{cs:List Int}{gen acc:Int}{pn pc:Option Addr}{cn cc b bt n:Nat}{w:World}{c:Cd}
theorem B5(h:w.heap[bt]?=some (tO b c n)):Calls prog 33 #[.pointer (some ⟨bt,0,none⟩)] w λ e w'=>e=.returned (.bool (c.a.k==0))/\St w [] [] w':=by refine enter func33 ntmps33 rfl rfl (SF.aAa h) ?_;simp only[cC];refine cX ?_;refine Jg ?_;refine aE ?_;refine J3 ?_;refine S7 ?_;refine aS results33 (λ w hw=>?_);exact⟨rfl,hw.bA.same h⟩
theorem Te(h:w.heap[bt]?=some (tO b c n)):Calls prog 34 #[.pointer (some ⟨bt,0,none⟩)] w λ e w'=>e=.returned (.agg ⟨(if c.a.k=0 then c.r else Rs.zero).cells⟩)/\St w [] [] w':=by
 refine enter func34 ntmps34 rfl rfl (SF.aAa h) ?_;simp only[cC];refine J0 ?_;refine aJ (λ x2=>?_);refine aG ?_;refine kF ?_;refine aN (cV (hc:=λ w1 hw=>B5 (hw.st.at cY))) (λ x4=>?_);refine oD ?_;refine bD (λ c5=>?_) (λ c5=>?_);·refine Kc2 ?_;refine aY results34 (λ w hw=>?_);refine⟨?_,hw.bA.same h⟩;rw[if_neg (by simpa using c5)];rfl
 ·refine aW ?_;refine Jg ?_;refine aE ?_;refine aC (aU (k:=8) (vs:=c.r.cells) rf cY eE rfl rfl) rfl ?_;refine J5 ?_;refine aY results34 (λ w hw=>?_);refine⟨?_,hw.bA.same h⟩;rw[if_pos (by simpa using c5)];rfl
end
end
end Go.Proofs.YtbajmaoegmbfgaaGreat
namespace Go.Ct
open Go Go.RowKit
section
abbrev AS.bl(a:AS)(cs:List Int):AS:={a with cs:=cs,acc:=up a.acc}
theorem AS.Ok.bl{a:AS}(ok:a.Ok){x o n:Int}(hn:n<=a.mm.nodes.length):(a.bl (eK a.cs x o n)).Ok:=⟨ok.fit,ok.mo.kH hn⟩
end
end Go.Ct
namespace Go.Proofs.YtbajmaoegmbfgaaGreat
open Go.Proofs.Tryz
open Go Go.RowKit Go.Ct
section
section
variable{D:List Nat}{A B:Fr}{a:AS}{b bt n:Nat}{w:World}{c:Cd}{t:Tr}{f:FuncId}{cap:List Value}
theorem dq(h:Zh b t a.mm f cap B)(ok:a.Ok)(hm:a.mm.Small)(hA:∀f∈aP a.L,f∈A)(hB:∀x∈B,x∈A)(hs:SF w D [(b,fR a)] A [] (gD a) w) :
  Calls prog 118 #[.func (.func f) #[] ⟨cap⟩] w (Ag b (λ c' s' B'=>jS b t a.mm c' s' B') a B D w):=by
 obtain⟨hp,h⟩:=h;refine T5 func118 ntmps118 rfl rfl hs ?_;simp only[cC];refine K1d ?_;refine wN (λ x2=>?_);refine iT ?_;refine K1d ?_;(refine gX cE rfl ?_);refine Hw rfl ?_;refine iT ?_;refine gF ?_;refine K1d ?_;refine qB ?_;refine gX (L6 rf rf (aD2 _ _ _)) rfl ?_;refine iT ?_;refine Ln (λ c5=>?_) (λ c5=>?_);·exact nv c5
 ·revert c5;(skip);intro c5;refine Fs ?_;refine K1d ?_;refine qB ?_;refine Bh (cMf (V:=λ y:Cd×Fr×AS=>.agg ⟨y.1.cells⟩) (hs:=[(b,fR a)]) (os:=gD a) (hs':=λ y=>[(b,fR y.2.2)]) (os':=λ y=>gD y.2.2) (Fc:=λ y=>y.2.1) (A0:=A) (f:=f) (cap:=cap) (vs:=[]) (hp:=hp) (hc:=λ w1 hw=>h a.mm (Mm.Le.refl _) a _ A w1 rfl ok hm hA hB hw)) (λ x8 h8=>?_);refine Ou (gE λ _=>aQ rf cY rf (cD _) eE rf iN) (λ _=>?_);refine iT ?_;refine Hz (Tg _) (by kernel_rfl) results118 (.cell rf cY eE .nil) (λ w hw=>?_);exact⟨x8,rfl,h8,hw.ret E0l (aZ.iV λ f hf=>by simpa using hf) (List.Sublist.refl _)⟩
theorem Iq{x:Int}{k:Int->Tr}(hr:jS b (.load x k) a.mm c a.mm B)(ok:a.Ok)(hm:a.mm.Small)(hA:∀f∈aP a.L,f∈A)(hB:∀x∈B,x∈A)(hs:SF w D [(b,fR a)] A [] (gD a) w) :
  Calls prog 86 #[.iface 42 (.pointer (some ⟨b,0,none⟩)),.agg ⟨c.cells⟩] w (Ag b (λ c' s' B'=>jS b (k (bJ a.cs x)) a.mm c' s' B') a B D w):=by
 obtain⟨_,hx,f,cap,rfl,hp,hk⟩:=hr;have hl:a.cs.length<=274877906944:=by have:=hm.2;show a.mm.cs.length<=_;omega
 have hv:bJ a.cs x<=a.mm.nodes.length:=ok.mo.cell x;refine T5 func86 ntmps86 rfl rfl hs ?_;simp only[cC]
 refine K1d ?_;refine jm (λ x3=>?_);refine wN (λ x4=>?_);refine iT ?_;refine K1d ?_;(refine gX cE rfl ?_);refine Hw rfl ?_;refine iT ?_;refine K1d ?_;refine eR ?_;refine gX (aU (k:=4) (vs:=(nQ x f cap).a.cells) rf cY eE rfl rfl) rfl ?_;refine wN (λ x5=>?_);refine P1 (λ _=>?_);refine K2h ?_;refine jv ?_;refine iT ?_;refine Ln (λ c13=>?_) (λ c13=>?_)
 ·revert c13;(refine cv1 ?_);intro c13;refine K1d ?_;refine Ad (λ _=>?_);refine iT ?_;refine gF ?_;refine K1d ?_;refine qB ?_;refine gX (Xo rf rf (Eu _)) rfl ?_;refine iT ?_;refine Ln (λ c15=>?_) (λ c15=>?_)
  ·revert c15;(skip);intro c15;refine dZ ?_;refine qB ?_;refine eR ?_;refine oE ?_;refine Bh (cMI (V:=λ _:Unit=>.int .i64 (bJ a.cs x)) (os':=λ _=>gD (a.bl a.cs)) (hs':=λ _=>[(b,fR (a.bl a.cs))]) (Fc:=λ _=>[]) (A0:=A) (hm:=λ w=>rq _ _ w) (hc:=λ w hw=>vn hw x hx hl)) (λ x19 h19=>?_);refine Ad (λ _=>?_);refine K2h ?_;refine gX (L6 rf rf (aCP _ _ _)) rfl ?_;refine iT ?_;refine Ln (λ c22=>?_) (λ c22=>?_);·exact nv c22
   ·revert c22;(skip);intro c22;refine Fs ?_;refine K1d ?_;refine eR ?_;refine oE ?_;refine qB ?_;refine Bh (cMf (V:=λ y:Cd×Fr×AS=>.agg ⟨y.1.cells⟩) (hs:=[(b,fR (a.bl a.cs))]) (os:=gD (a.bl a.cs)) (hs':=λ y=>[(b,fR y.2.2)]) (os':=λ y=>gD y.2.2) (Fc:=λ y=>y.2.1) (A0:=A) (f:=f) (cap:=cap) (vs:=[.int .i64 (bJ a.cs x)]) (hp:=hp) (hc:=λ w1 hw=>hk (bJ a.cs x) a.mm (Mm.Le.refl _) hv (a.bl a.cs) _ A w1 rfl ⟨ok.fit,ok.mo⟩ hm hA hB hw)) (λ x27 h27=>?_);refine Ou (gE λ _=>aQ rf cY rf (cD _) eE rf iN) (λ _=>?_);refine iT ?_;refine Hz (zJ _) (by kernel_rfl) results86 (.cell rf cY eE .nil) (λ w hw=>?_);exact⟨x27,rfl,⟨h27.1,h27.2.1,⟨h27.2.2.le,h27.2.2.fam⟩⟩,hw.ret E0l (aZ.iV λ f hf=>by simpa using hf) (List.Sublist.refl _)⟩
  ·exact nv c15
 ·revert c13;(refine cv2 ?_);intro c13;exact(c13 rfl).elim
theorem Jt{x o n:Int}{k:Bool->Tr}(hr:jS b (.kH x o n k) a.mm c a.mm B)(ok:a.Ok)(hm:a.mm.Small)(hA:∀f∈aP a.L,f∈A)(hB:∀x∈B,x∈A)(hs:SF w D [(b,fR a)] A [] (gD a) w) :
  Calls prog 86 #[.iface 42 (.pointer (some ⟨b,0,none⟩)),.agg ⟨c.cells⟩] w (Ag b (λ c' s' B'=>jS b (k (jj a.cs x o)) ⟨a.mm.nodes,eK a.cs x o n,a.gen⟩ c' s' B') a B D w):=by
 obtain⟨_,hx,hn,f,cap,rfl,hp,hk⟩:=hr;have hl:a.cs.length<=274877906944:=by have:=hm.2;show a.mm.cs.length<=_;omega
 have hle:a.mm.Le ⟨a.mm.nodes,eK a.cs x o n,a.gen⟩:=⟨⟨[],by simp⟩,by show a.cs.length<=(eK a.cs x o n).length;rw[gN];exact Nat.le_refl _⟩;have hm2:Mm.Small ⟨a.mm.nodes,eK a.cs x o n,a.gen⟩:=⟨hm.1,by show(eK a.cs x o n).length<=_;rw[gN];exact hm.2⟩;refine T5 func86 ntmps86 rfl rfl hs ?_;simp only[cC]
 refine K1d ?_;refine jm (λ x3=>?_);refine wN (λ x4=>?_);refine iT ?_;refine K1d ?_;(refine gX cE rfl ?_);refine Hw rfl ?_;refine iT ?_;refine K1d ?_;refine eR ?_;refine gX (aU (k:=4) (vs:=(xJ x o n f cap).a.cells) rf cY eE rfl rfl) rfl ?_;refine wN (λ x5=>?_);refine P1 (λ _=>?_);refine K2h ?_;refine jv ?_;refine iT ?_;refine Ln (λ c13=>?_) (λ c13=>?_);·revert c13;(refine cv1 ?_);intro c13;exact absurd (show(2:Int)=1 from c13) (by decide)
 ·revert c13;(refine cv2 ?_);intro c13;refine Fs ?_;refine K1d ?_;refine qB ?_;refine gX (Xo rf rf (Eu _)) rfl ?_;refine qB ?_;(refine wU ?_;refine qB ?_);((refine wU ?_;refine eR ?_));((refine wU ?_;refine oE ?_));((refine wU ?_;refine eR ?_));((refine wU ?_;refine oE ?_));((refine wU ?_;refine eR ?_));((refine wU ?_;refine oE ?_));((refine wU ?_;refine Bh (cMI (V:=Value.bool) (os':=λ _=>gD (a.bl (eK a.cs x o n))) (hs':=λ _=>[(b,fR (a.bl (eK a.cs x o n)))]) (Fc:=λ _=>[]) (A0:=A) (hm:=λ w=>vh _ _ _ _ w) (hc:=λ w hw=>aA3 hw x o n hx hl)) (λ x38 h38=>?_)));refine va ?_;refine Ad (λ _=>?_);refine K2h ?_;refine gX (L6 rf rf (aDU _ _ _)) rfl ?_;refine iT ?_;refine Ln (λ c42=>?_) (λ c42=>?_);·exact nv c42
  ·revert c42;(skip);intro c42;refine Fs ?_;refine K1d ?_;refine eR ?_;refine oE ?_;refine qB ?_;refine Bh (cMf (V:=λ y:Cd×Fr×AS=>.agg ⟨y.1.cells⟩) (hs:=[(b,fR (a.bl (eK a.cs x o n)))]) (os:=gD (a.bl (eK a.cs x o n))) (hs':=λ y=>[(b,fR y.2.2)]) (os':=λ y=>gD y.2.2) (Fc:=λ y=>y.2.1) (A0:=A) (f:=f) (cap:=cap) (vs:=[.bool x38]) (hp:=hp) (hc:=λ w1 hw=>hk x38 _ hle (a.bl (eK a.cs x o n)) _ A w1 rfl (ok.bl hn) hm2 hA hB hw)) (λ x47 h47=>?_);refine Ou (gE λ _=>aQ rf cY rf (cD _) eE rf iN) (λ _=>?_);refine iT ?_;refine Hz (zJ _) (by kernel_rfl) results86 (.cell rf cY eE .nil) (λ w hw=>?_);exact⟨x47,rfl,⟨Xn h38▸h47.1,h47.2.1,⟨hle.trans h47.2.2.le,h47.2.2.fam⟩⟩,hw.ret E0l (aZ.iV λ f hf=>by simpa using hf) (List.Sublist.refl _)⟩
def rS(b:Nat)(p:Tr×Mm)(a:AS)(B:Fr)(y:Cd×Fr×AS):Prop:=(jS b p.1 p.2 y.1 p.2 (y.2.1++B)/\y.2.2.mm=p.2)/\y.2.2.Ok/\a.iL y.2.2 y.2.1
variable{i m:Nat}
theorem rS.of{t0:Tr}{s0:Mm}{y:Cd×Fr×AS}(ht:bV t0 i m)(h:jS b t0 s0 y.1 y.2.2.mm (y.2.1++B)/\y.2.2.Ok/\a.iL y.2.2 y.2.1):rS b (Ct.eD t0 s0) a B y/\dL (Ct.eD t0 s0).1=true:=by obtain⟨h1,h2,h3⟩:=jS.eD ht h.1;exact⟨⟨⟨by rw[h1];exact h3,h1.symm⟩,h.2⟩,h2⟩
theorem Qh(ht:bV t (i+1) m)(ha:dL t=true)(hlv:t.live=true)(hr:jS b t a.mm c a.mm B)(ok:a.Ok)(hm:a.mm.Small)(hA:∀f∈aP a.L,f∈A)(hB:∀x∈B,x∈A)(hs:SF w D [(b,fR a)] A [] (gD a) w) :
  Calls prog 86 #[.iface 42 (.pointer (some ⟨b,0,none⟩)),.agg ⟨c.cells⟩] w λ e w'=>∃y:Cd×Fr×AS,e=.returned (.agg ⟨y.1.cells⟩)/\(rS b (D6 (t,a.mm)) a B y/\dL (D6 (t,a.mm)).1=true)/\SF w D [(b,fR y.2.2)] [] y.2.1 (gD y.2.2) w':=by
 cases t with
 | done r=>cases hlv
 | load x k=>exact(Iq hr ok hm hA hB hs).mono λ e w' ⟨y,he,h,hw⟩=>⟨y,he,rS.of (ht _) h,hw⟩
 | kH x o n k=>exact(Jt hr ok hm hA hB hs).mono λ e w' ⟨y,he,h,hw⟩=>⟨y,he,rS.of (ht _) h,hw⟩
 | alloc n i k=>cases ha
 | cell i k=>cases ha
 | gen k=>cases ha
 | node r k=>cases ha
 | stuck=>cases ha
theorem Zi(ht:bV t (i+1) m)(ha:dL t=true)(hlv:t.live=true)(hr:jS b t a.mm c a.mm B)(ok:a.Ok)(hm:a.mm.Small)(hn:n<1000000000)(hA:∀f∈aP a.L,f∈A)(hB:∀x∈B,x∈A)(hs:SF w D [(bt,tO b c n),(b,fR a)] A [] (gD a) w) :
  Calls prog 37 #[.pointer (some ⟨bt,0,none⟩)] w λ e w'=>∃y:Cd×Fr×AS,e=.returned (.tuple #[])/\(rS b (D6 (t,a.mm)) a B y/\dL (D6 (t,a.mm)).1=true)/\SF w D [(bt,tO b y.1 (n+1)),(b,fR y.2.2)] [] y.2.1 (gD y.2.2) w':=by
 have hk:c.a.k≠0:=λ e=>by have:=(hr.kind ha).1.1 e;rw[hlv] at this;cases this
 refine enter func37 ntmps37 rfl rfl hs ?_;simp only[cC];refine kF ?_;refine aN (cV (hc:=λ w1 hw=>B5 (hw.st.at cY))) (λ x3=>?_);refine aA ?_;(refine eF 4 (λ g4=>?_) (λ g4=>?_)<;>(try (exfalso;omega))<;>((refine Ka3 ?_)));((refine aF ?_;refine dM ?_));refine J6 ?_;refine cH ?_;refine aG ?_;refine bD (λ c9=>?_) (λ c9=>?_);·exact nv c9
 ·try (exfalso;omega)
  refine aW ?_;refine J13 ?_;refine vU ?_;refine mY ?_;refine Ea ?_;refine O0 ?_;refine aV ?_;refine gO [0,1,2,3,4,5,6,7,8,9,10,11,12] ?_;refine cg ?_;refine J9 ?_;refine bU (i:=8) (hq:=(aU (k:=14) (vs:=c.cells) rf cY eE rfl rfl)) (h:=?_);refine bK (i:=9) (hq:=(cM (V:=λ y:Cd×Fr×AS=>.agg ⟨y.1.cells⟩) (Fc:=λ y=>y.2.1) (hs:=[(b,fR a)]) (os:=gD a) (A0:=A) (hs':=λ y=>[(b,fR y.2.2)]) (os':=λ y=>gD y.2.2) (hc:=λ w hw=>Qh ht ha hlv hr ok hm hA hB hw))) (h:=λ x29 h29=>?_);refine J4 ?_;refine lZ (i:=12) (hq:=(gE λ _=>mE (off:=1) (vs:=x29.1.cells) (cs:=tkC b x29.1 (n+1) true) rf cY rf (cD _) eE (Nat.le_of_ble_eq_true rfl) rf iN)) (h:=λ _=>?_);refine eS ?_;refine xN ?_;refine O0 ?_;refine De results37 (λ w hw=>?_);exact⟨x29,rfl,h29,hw.ret (List.Sublist.refl _) (aZ.iV λ f hf=>by simpa using hf) (List.Sublist.refl _)⟩
theorem ja(ht:bV t i m)(h:Zh b t a.mm f cap B)(ok:a.Ok)(hm:a.mm.Small)(hA:∀f∈aP a.L,f∈A)(hB:∀x∈B,x∈A)(hs:SF w D [(b,fR a)] A [] (gD a) w) :
  Calls prog 73 #[.iface 42 (.pointer (some ⟨b,0,none⟩)),.func (.func f) #[] ⟨cap⟩] w λ e w'=>∃x:Nat×Cd×Fr×AS,e=.returned (.pointer (some ⟨x.1,0,none⟩))/\(rS b (Ct.eD t a.mm) a B x.2/\dL (Ct.eD t a.mm).1=true)/\SF w D [(x.1,tO b x.2.1 0),(b,fR x.2.2.2)] [] x.2.2.1 (gD x.2.2.2) w':=by refine enter func73 ntmps73 rfl rfl hs ?_;simp only[cC];refine Kb4 ?_;refine bN ?_;refine bL (λ x8=>?_);refine zO ?_;refine aD (cM (V:=λ y:Cd×Fr×AS=>.agg ⟨y.1.cells⟩) (Fc:=λ y=>y.2.1) (hs:=[(b,fR a)]) (os:=gD a) (A0:=A) (hs':=λ y=>[(b,fR y.2.2)]) (os':=λ y=>gD y.2.2) (hc:=λ w1 hw=>dq h ok hm hA hB hw)) (λ x11 h11=>?_);refine Hs ?_;refine bT (gE λ _=>mE (off:=1) (vs:=x11.1.cells) (cs:=tkC b x11.1 0 false) rf cY rf (cD _) eE (Nat.le_of_ble_eq_true rfl) rf iN) (λ _=>?_);refine aG ?_;refine Ka5 ?_;refine aS results73 (λ w hw=>?_);exact⟨(x8,x11),rfl,rS.of ht h11,hw.ret (List.Sublist.refl _) (aZ.iV λ f hf=>by simpa using hf) (List.Sublist.refl _)⟩
end
end
section
variable{t:Tr}{n c:Nat}
theorem oK:∀{t:Tr} {n c:Nat} (s:Mm),bV t n c->∀c',bV (eD t s).1 n c'
 | .done _,_,_,_,_,_=>trivial
 | .load _ _,0,_,_,_,_=>trivial
 | .load _ _,_+1,_,_,h,_=>h
 | .kH _ _ _ _,0,_,_,_,_=>trivial
 | .kH _ _ _ _,_+1,_,_,h,_=>h
 | .alloc _ _ _,_,0,_,h,_=>h.elim
 | .alloc n i k,_,_+1,s,h,c'=>oK (s.push n i) (h _) c'
 | .cell _ _,_,0,_,h,_=>h.elim
 | .cell i k,_,_+1,s,h,c'=>oK ⟨s.nodes,s.cs++[i],s.gen⟩ (h _) c'
 | .gen _,_,0,_,h,_=>h.elim
 | .gen k,_,_+1,s,h,c'=>oK ⟨s.nodes,s.cs,s.gen+1⟩ (h _) c'
 | .node r k,_,_,s,h,c'=>oK (t:=k (bH s.nodes r)) s (h (bH s.nodes r)) c'
 | .stuck,_,_,_,h,_=>h.elim
theorem qX:∀{t:Tr} {n c:Nat} (s:Mm),bV t n c->dL (eD t s).1=true
 | .done _,_,_,_,_=>rfl
 | .load _ _,_,_,_,_=>rfl
 | .kH _ _ _ _,_,_,_,_=>rfl
 | .alloc _ _ _,_,0,_,h=>h.elim
 | .alloc n i k,_,_+1,s,h=>qX (s.push n i) (h _)
 | .cell _ _,_,0,_,h=>h.elim
 | .cell i k,_,_+1,s,h=>qX ⟨s.nodes,s.cs++[i],s.gen⟩ (h _)
 | .gen _,_,0,_,h=>h.elim
 | .gen k,_,_+1,s,h=>qX ⟨s.nodes,s.cs,s.gen+1⟩ (h _)
 | .node r k,_,_,s,h=>qX (t:=k (bH s.nodes r)) s (h (bH s.nodes r))
 | .stuck,_,_,_,h=>h.elim
theorem oQ:∀{t:Tr} {n c:Nat} (s:Mm),bV t n c->(eD t s).2.nodes.length<=s.nodes.length+c/\(eD t s).2.cs.length<=s.cs.length+c
 | .done _,_,_,_,_=>⟨Nat.le_add_right _ _,Nat.le_add_right _ _⟩
 | .load _ _,_,_,_,_=>⟨Nat.le_add_right _ _,Nat.le_add_right _ _⟩
 | .kH _ _ _ _,_,_,_,_=>⟨Nat.le_add_right _ _,Nat.le_add_right _ _⟩
 | .alloc _ _ _,_,0,_,h=>h.elim
 | .alloc n i k,_,c+1,s,h=>by
  have h2:=oQ (s.push n i) (h ((s.nodes.length+1:Nat):Int));have hl:=mF (k:=n.kind) (cs:=s.cs) (init:=i);simp only[Mm.push,List.length_append,List.length_cons,List.length_nil] at h2
  show(eD (k _) (s.push n i)).2.nodes.length<=_/\(eD (k _) (s.push n i)).2.cs.length<=_
  simp only[Mm.push]
  omega
 | .cell _ _,_,0,_,h=>h.elim
 | .cell i k,_,c+1,s,h=>by
  have h2:=oQ ⟨s.nodes,s.cs++[i],s.gen⟩ (h ((s.cs.length+1:Nat):Int));simp only[List.length_append,List.length_cons,List.length_nil] at h2
  show(eD (k _) _).2.nodes.length<=_/\(eD (k _) _).2.cs.length<=_
  omega
 | .gen _,_,0,_,h=>h.elim
 | .gen k,_,c+1,s,h=>by
  have h2:=oQ ⟨s.nodes,s.cs,s.gen+1⟩ (h (s.gen+1));dsimp only at h2;show(eD (k _) _).2.nodes.length<=_/\(eD (k _) _).2.cs.length<=_
  omega
 | .node r k,_,c,s,h=>oQ (t:=k (bH s.nodes r)) s (h (bH s.nodes r))
 | .stuck,_,_,_,h=>h.elim
theorem eb(s:Mm)(ht:bV t (n+1) c)(ha:dL t=true)(c':Nat):bV (D6 (t,s)).1 n c':=by
 cases t with
 | done r=>trivial
 | load x k=>exact oK _ (ht _) c'
 | kH x o m k=>exact oK _ (ht _) c'
 | alloc n i k=>cases ha
 | cell i k=>cases ha
 | gen k=>cases ha
 | node r k=>cases ha
 | stuck=>cases ha
theorem ik(s:Mm)(ht:bV t (n+1) c)(ha:dL t=true):dL (D6 (t,s)).1=true:=by
 cases t with
 | done r=>rfl
 | load x k=>exact qX _ (ht _)
 | kH x o m k=>exact qX _ (ht _)
 | alloc n i k=>cases ha
 | cell i k=>cases ha
 | gen k=>cases ha
 | node r k=>cases ha
 | stuck=>cases ha
theorem sg(s:Mm)(ht:bV t (n+1) c)(ha:dL t=true):(D6 (t,s)).2.nodes.length<=s.nodes.length+64/\(D6 (t,s)).2.cs.length<=s.cs.length+64:=by
 cases t with
 | done r=>exact⟨Nat.le_add_right _ _,Nat.le_add_right _ _⟩
 | load x k=>exact oQ s (ht _)
 | kH x o m k=>have:=oQ ⟨s.nodes,eK s.cs x o m,s.gen⟩ (ht (jj s.cs x o));simp only[gN] at this;exact this
 | alloc n i k=>cases ha
 | cell i k=>cases ha
 | gen k=>cases ha
 | node r k=>cases ha
 | stuck=>cases ha
theorem Hq{t:Tr}{n:Nat}{s:Mm}(ht:bV t n 64)(ha:dL t=true):∀k,k<=n->bV (jC (t,s) k).1 (n-k) 64/\dL (jC (t,s) k).1=true/\(jC (t,s) k).2.nodes.length<=s.nodes.length+64*k/\(jC (t,s) k).2.cs.length<=s.cs.length+64*k
 | 0,_=>⟨ht,ha,Nat.le_refl _,Nat.le_refl _⟩
 | k+1,h=>by obtain⟨h1,h2,h3,h4⟩:=Hq ht ha k (by omega);rw[show n-k=n-(k+1)+1 by omega] at h1;have h5:(D6 (jC (t,s) k)).2.nodes.length<=(jC (t,s) k).2.nodes.length+64/\(D6 (jC (t,s) k)).2.cs.length<=(jC (t,s) k).2.cs.length+64:=sg (jC (t,s) k).2 h1 h2;exact⟨eb _ h1 h2 64,ik _ h1 h2,by show(D6 (jC (t,s) k)).2.nodes.length<=_;omega,by show(D6 (jC (t,s) k)).2.cs.length<=_;omega⟩
def oN(p:Tr×Mm):Nat->Nat
 | 0=>0
 | k+1=>oN p k+if(jC p k).1.live=true then 1 else 0
theorem rm{p:Tr×Mm}(h:p.1.live=false):D6 p=p:=by obtain⟨t,s⟩:=p;cases t<;>first|rfl|cases h
theorem I4{p:Tr×Mm}{j:Nat}(h:(jC p j).1.live=false):∀k,jC p (j+k)=jC p j/\oN p (j+k)=oN p j
 | 0=>⟨rfl,rfl⟩
 | k+1=>by
  obtain⟨h1,h2⟩:=I4 h k;refine⟨?_,?_⟩;·show D6 (jC p (j+k))=_;rw[h1,rm h]
  ·show oN p (j+k)+(if(jC p (j+k)).1.live=true then 1 else 0)=_;rw[h1,h2,h];rfl
theorem yF{p:Tr×Mm}{j k:Nat}(h:(jC p j).1.live=false)(hk:j<=k):jC p k=jC p j/\oN p k=oN p j:=by have:=I4 h (k-j);rwa [show j+(k-j)=k by omega] at this
structure TkI(b:Nat)(p:Tr×Mm)(a:AS)(B:Fr)(y:Cd×Fr×AS):Prop where
 rp:jS b p.1 p.2 y.1 p.2 (y.2.1++B)
 mm:y.2.2.mm=p.2
 ok:y.2.2.Ok
 gr:a.iL y.2.2 y.2.1
theorem TkI.of{b:Nat}{p:Tr×Mm}{a:AS}{B:Fr}{y:Cd×Fr×AS}(h:rS b p a B y):TkI b p a B y:=⟨h.1.1,h.1.2,h.2.1,h.2.2⟩
theorem kj{b:Nat}{t:Tr}{s:Mm}{c:Cd}{B:Fr}(h:jS b t s c s B)(ha:dL t=true):(c.a.k≠0↔t.live=true):=by
 have:=(h.kind ha).1;cases hl:t.live with
 | false=>rw[hl] at this;exact⟨λ hn=>absurd (this.2 rfl) hn,λ h=>nomatch h⟩
 | true=>rw[hl] at this;exact⟨λ _=>rfl,λ _ e=>nomatch this.1 e⟩
section
variable{D:List Nat}{A B:Fr}{a:AS}{b bt n:Nat}{w:World}{c:Cd}{t:Tr}
theorem Px{most m:Nat}(ht:bV t m 64)(hmm:most<=m)(ha:dL t=true)(hr:jS b t a.mm c a.mm B)(ok:a.Ok)(hm:a.mm.nodes.length+64*most<=137438953472/\a.mm.cs.length+64*most<=137438953472)(hn:n+most<1000000000)(hA:∀f∈aP a.L,f∈A)(hB:∀x∈B,x∈A)(hs:SF w D [(bt,tO b c n),(b,fR a)] A [] (gD a) w) :
    Calls prog 30 #[.pointer (some ⟨bt,0,none⟩),.int .i64 ((most:Nat):Int)] w λ e w'=>∃y:Cd×Fr×AS,e=.returned (.int .i64 ((oN (t,a.mm) most:Nat):Int))/\TkI b (jC (t,a.mm) most) a B y/\SF w D [(bt,tO b y.1 (n+oN (t,a.mm) most)),(b,fR y.2.2)] [] y.2.1 (gD y.2.2) w':=by
     have hall:=λ k hk=>Hq (s:=a.mm) ht ha k hk;refine enter func30 ntmps30 rfl rfl hs ?_;simp only[cC]
     refine cX ?_;refine cX ?_;refine Dm ?_;refine nB [5,6,7,8,9,10,11,12,13,14,15,16,17,18,19,20,21,22,23,24] (λ y:Nat×Cd×Fr×AS=>[(5,.int .i64 ((y.1:Nat):Int))]) (λ y=>y.1<=most/\TkI b (jC (t,a.mm) y.1) a B y.2/\oN (t,a.mm) y.1=y.1) (λ y=>[(bt,tO b y.2.1 (n+y.1)),(b,fR y.2.2.2)]) (λ y=>y.2.2.1) (λ y=>gD y.2.2.2) (λ y=>most-y.1) ((0,c,[],a)) (⟨Nat.zero_le _,⟨hr,rfl,ok,AS.iL.refl a⟩,rfl⟩) (λ y f hx=>?_) (hw0:=λ w hw=>hw);refine K0a ?_;obtain⟨h1,h2,h3,h4⟩:=hall y.1 (by omega);have hrp:jS b (jC (t,a.mm) y.1).1 y.2.2.2.mm y.2.1 y.2.2.2.mm (y.2.2.1++B):=by rw[hx.2.1.mm];exact hx.2.1.rp
     have hsm:y.2.2.2.mm.Small:=by rw[hx.2.1.mm];exact⟨by omega,by omega⟩
     have hli:=kj hx.2.1.rp h2;refine Cb ?_;refine Au ?_;(refine eF 9 (λ g9=>?_) (λ g9=>?_)<;>refine Ka0 ?_);all_goals ((first|refine aI ?_|(refine aF ?_;refine aN (cV (hc:=λ w1 hw=>B5 (hw.st.at cY))) (λ x11=>?_)));refine Ov ?_;refine aA ?_)
     all_goals (first|refine aI ?_|(refine eF 14 (λ g14=>?_) (λ g14=>?_)<;>refine Ka0 ?_))
     all_goals (refine Kb6 ?_;refine J6 ?_;refine Kc4 ?_)
     all_goals
      refine bD (λ c20=>?_) (λ c20=>?_)
      ·try exact nv c20
       all_goals (refine aW ?_;refine cR ?_;refine J2 ?_;refine aD (cM (V:=λ _:Cd×Fr×AS=>.tuple #[]) (hs:=[(bt,tO b y.2.1 (n+y.1)),(b,fR y.2.2.2)]) (os:=gD y.2.2.2) (Fc:=λ z=>z.2.1) (A0:=aP y.2.2.2.L++(y.2.2.1++B)) (hs':=λ z=>[(bt,tO b z.1 (n+y.1+1)),(b,fR z.2.2)]) (os':=λ z=>gD z.2.2) (hA:=bG.of λ f hf=>(List.mem_append.1 hf).elim (λ h1=>(hx.2.1.gr.fam f h1).elim .inl λ h2=>h2.elim (λ h3=>.inr (.inl (hA f h3))) λ h3=>.inr (.inr (.inl h3))) λ h1=>(List.mem_append.1 h1).elim (λ h2=>.inr (.inr (.inl h2))) λ h2=>.inr (.inl (hB f h2))) (hc:=λ w hw=>Zi (i:=m-(y.1+1)) (m:=64) (by rw[show m-(y.1+1)+1=m-y.1 by omega];exact h1) h2 (hli.1 g14) hrp hx.2.1.ok hsm (by omega) (λ f hf=>List.mem_append_left _ hf) (λ f hf=>List.mem_append_right _ hf) hw)) (λ x22 h22=>?_);refine aG ?_;refine vB ?_;refine eV ?_)
       all_goals
        refine iX ((y.1+1,x22.1,x22.2.1++y.2.2.1,x22.2.2)) ?_ (hw1:=λ w hw=>hw)
        ·have e1:jC (t,a.mm) (y.1+1)=D6 ((jC (t,a.mm) y.1).1,y.2.2.2.mm):=by rw[hx.2.1.mm];rfl
         have h5:=TkI.of h22.1;have hlv:=hli.1 g14;refine⟨by show y.1+1<=most;omega,⟨?_,?_,h5.ok,hx.2.1.gr.trans h5.gr⟩,?_⟩
         ·rw[e1];show jS b _ _ _ _ (x22.2.1++y.2.2.1++B);rw[List.append_assoc];exact h5.rp
         ·rw[e1];exact h5.mm
         ·show oN (t,a.mm) y.1+_=y.1+1;rw[hlv,hx.2.2];rfl
      ·try exact nv c20
       all_goals (refine bS rfl ?_;refine Ka5 ?_)
       all_goals
        refine aS results30 (λ w hw=>?_);have e:jC (t,a.mm) most=jC (t,a.mm) y.1/\oN (t,a.mm) most=y.1:=by
         first
          | (have h:=yF (Bool.eq_false_iff.2 λ h=>hli.2 h g14) hx.1;exact⟨h.1,h.2.trans hx.2.2⟩)
          | (have em:most=y.1:=(by have:=hx.1;omega);rw[em];exact⟨rfl,hx.2.2⟩)
        rw[e.1,e.2];exact⟨y.2,rfl,hx.2.1,hw.ret (List.Sublist.refl _) (aZ.iV λ f hf=>hf) (List.Sublist.refl _)⟩
end
end
end Go.Proofs.YtbajmaoegmbfgaaGreat
namespace Go.Ct
open Go Go.RowKit
section
section
variable{α:Type}
end
end
end Go.Ct
namespace Go.Proofs.YtbajmaoegmbfgaaGreat
open Go Go.RowKit Go.Ct
section
theorem kv{t t':Tr}{s s':Mm}{j:Nat}(h:Rc j t s t' s')(hj:j=0)(ht:dL t=true):t'=t/\s'=s:=by
 induction h with
 | refl t s=>exact⟨rfl,rfl⟩
 | eD _ hs ih=>obtain⟨e1,e2⟩:=ih hj ht;subst e1;cases hs<;>cases ht
 | loud _ _ _=>cases hj
structure PX where
 e:EX
 m:Nat
 tb:Nat
 c:Cd
 n:Nat
structure LS where
 a:AS
 z:XS
 l:List PX
 B:Fr
section
variable{ba bm:Nat}
end
section
variable{ba bm Bz C:Nat}{D:List Nat}{A:Fr}{w:World}{a:AS}{z:XS}{l1 l2:List PX}{p:PX}{B:Fr}
end
end
end Go.Proofs.YtbajmaoegmbfgaaGreat
namespace Go.Ct
open Go Go.RowKit
section
section
variable{P:Program}{w:World}
def kOk(P:Program)(t:TypeId):Nat->Bool
 | 0=>match P.underlying t with|some (.int _)=>true|_=>false
 | 1=>match P.underlying t with|some .bool=>true|_=>false
 | _=>match P.underlying t with|some .string=>true|_=>false
inductive tz:Nat->Value->Value->Bool->Prop where
 | int (k:IntKind) (a b:Int):tz 0 (.int k a) (.int k b) (a==b)
 | bool (a b:Bool):tz 1 (.bool a) (.bool b) (a==b)
 | str (a b:ByteArray):tz 2 (.string a) (.string b) (decide (a=b))
theorem tz.run{t:TypeId}{k:Nat}{u v:Value}{r:Bool}(h:tz k u v r)(ht:kOk P t k=true)(d:Nat):(Op.equalIn (d+1) t u v).run P w=.ok r w:=by
 cases h with
 | int k a b=>
  cases hu:P.underlying t with
  | none=>simp[kOk,hu] at ht
  | some z=>cases z<;>simp[kOk,hu] at ht;exact run_equalIn_int w d t k _ a b hu
 | bool a b=>
  cases hu:P.underlying t with
  | none=>simp[kOk,hu] at ht
  | some z=>cases z<;>simp[kOk,hu] at ht;exact run_equalIn_bool w d t a b hu
 | str a b=>
  cases hu:P.underlying t with
  | none=>simp[kOk,hu] at ht
  | some z=>cases z<;>simp[kOk,hu] at ht;rw[<- Hn];exact run_equalIn_string w d t a b hu
def fOk(P:Program)(f:Field)(o k:Nat):Bool:=f.name != "_" && Nat.beq f.offset o&&one P f.type&&kOk P f.type k
variable{xs ys:Array Value}{d:Nat}
theorem V7{f:Field}{fs:List Field}{o k:Nat}{u v:Value}{r:Bool}(hf:fOk P f o k=true)(hx:xs[o]?=some u)(hy:ys[o]?=some v)(h:tz k u v r) :
  (Op.eqFields (d+1) xs ys (f::fs)).run P w=if r=true then(Op.eqFields (d+1) xs ys fs).run P w else .ok false w:=by
 simp only[fOk,Bool.and_eq_true,bne_iff_ne,ne_eq] at hf;obtain⟨⟨⟨h1,h2⟩,h3⟩,h4⟩:=hf;replace h2:=eT h2;subst h2;have p1:(part f.type xs f.offset).run P w=.ok u w:=mQ h3 hx w;have p2:(part f.type ys f.offset).run P w=.ok v w:=mQ h3 hy w;simp only[Op.eqFields,h1,ne_eq,not_false_eq_true,if_true,Sem.run_bind,p1,p2,h.run h4 d,Result.andThen_ok,Sem.run_ite,Sem.run_pure]
 cases r<;>simp
theorem tq:(Op.eqFields d xs ys []).run P w=.ok true w:=by simp[Op.eqFields]
def bg(P:Program)(t:TypeId):List Nat->Nat->List Field->Bool
 | [],_,fs=>fs.isEmpty
 | k::ks,o,f::fs=>fOk P f o k&&bg P t ks (o+1) fs
 | _::_,_,[]=>false
inductive Ic:List Nat->List Value->List Value->Bool->Prop where
 | nil:Ic [] [] [] true
 | cons {k:Nat} {ks:List Nat} {u v:Value} {us vs:List Value} {r r2:Bool} (h:tz k u v r) (hs:Ic ks us vs r2):Ic (k::ks) (u::us) (v::vs) (r&&r2)
theorem Wn{t:TypeId}{d:Nat}:∀{ks:List Nat} {us vs:List Value} {r:Bool} {fs:List Field} {o:Nat} {xs ys:List Value},Ic ks us vs r->bg P t ks o fs=true->xs.drop o=us->ys.drop o=vs ->
  (Op.eqFields (d+1) ⟨xs⟩ ⟨ys⟩ fs).run P w=.ok r w
 | [],_,_,_,fs,_,_,_,h,hs,_,_=>by
  cases h
  cases fs with
  | nil=>exact tq
  | cons f fs=>simp[bg] at hs
 | k::ks,_,_,_,fs,o,xs,ys,h,hs,hx,hy=>by
  cases h with
  | @cons _ _ u v us vs r r2 h h2 =>
   cases fs with
   | nil=>simp[bg] at hs
   | cons f fs =>
    simp only[bg,Bool.and_eq_true] at hs
    have ex:xs[o]?=some u:=by rw[<- List.head?_drop,hx];rfl
    have ey:ys[o]?=some v:=by rw[<- List.head?_drop,hy];rfl
    have hx2:xs.drop (o+1)=us:=by rw[<- List.drop_drop,hx];rfl
    have hy2:ys.drop (o+1)=vs:=by rw[<- List.drop_drop,hy];rfl
    rw[V7 hs.1 (by simpa using ex) (by simpa using ey) h,Wn h2 hs.2 hx2 hy2]
    cases r<;>simp
def Nu(P:Program)(t:TypeId)(ks:List Nat):Bool :=
 (match P.underlying t with
 | some (.struct fs)=>bg P t ks 0 fs.toList
 | _=>false)&&!P.stoodInHeld t&&!P.eqGuardType P.depth t
theorem Q8{t:TypeId}{ks:List Nat}{us vs:List Value}{r:Bool}(h:Nu P t ks=true)(hv:Ic ks us vs r)(d:Nat) :
  (Op.equalIn (d+2) t (.agg ⟨us⟩) (.agg ⟨vs⟩)).run P w=.ok r w/\P.eqGuardType P.depth t=false:=by
 unfold Nu at h;cases hu:P.underlying t with
 | none=>simp[hu] at h
 | some dd=>
  rw[hu] at h;cases dd<;>simp only[Bool.false_and,Bool.false_eq_true] at h;rename_i fs;have hf:P.fieldsOf t=fs:=by simp[Program.fieldsOf,hu]
  simp only[Bool.and_eq_true,Bool.not_eq_true'] at h;refine⟨?_,h.2⟩;rw[run_equalIn_struct w (d+1) t _ _ (by rw[hf];exact hu) h.1.2,hf];exact Wn (o:=0) hv h.1.1 rfl rfl
def Er(P:Program)(t:TypeId):List Nat->List Nat->Nat->List Field->Bool
 | [],k2,o,[f]=>f.name != "_" && Nat.beq f.offset o&&jO P f.type 2&&Nu P f.type k2
 | k::ks,k2,o,f::fs=>fOk P f o k&&Er P t ks k2 (o+1) fs
 | _,_,_,_=>false
theorem Bk{t:TypeId}(h:jO P t 2=true){cs:List Value}{off:Nat}{u v:Value}(hv:cs.drop off=[u,v])(w:World):(part t ⟨cs⟩ off).run P w=.ok (.agg ⟨[u,v]⟩) w:=by
 obtain⟨dd,hu,hm,hi⟩:=iG h;have hagg:(isAgg t).run P w=.ok true w:=by unfold isAgg;rw[Sem.run_bind,run_underlying hu w];cases dd<;>simp_all
 cases hq':P.info? t with
 | none=>rw[hq'] at hi;simp at hi
 | some i=>
  have hs:i.size=2:=by rw[hq'] at hi;simpa using hi
  simp[part,hagg,Go.sizeOf,typeInfo,hq',hs,hv]
theorem Sv{t:TypeId}{d:Nat}{k2:List Nat}{a1 a2 b1 b2:Value}{r2:Bool}(hn:Ic k2 [a1,a2] [b1,b2] r2):∀{ks:List Nat} {us vs:List Value} {r:Bool} {fs:List Field} {o:Nat} {xs ys:List Value},Ic ks us vs r->Er P t ks k2 o fs=true->xs.drop o=us++[a1,a2]->ys.drop o=vs++[b1,b2] ->
  (Op.eqFields (d+2) ⟨xs⟩ ⟨ys⟩ fs).run P w=.ok (r&&r2) w
 | [],_,_,_,fs,o,xs,ys,h,hs,hx,hy=>by
  cases h
  cases fs with
  | nil=>simp[Er] at hs
  | cons f fs =>
   cases fs with
   | cons g fs=>simp[Er] at hs
   | nil =>
    simp only[Er,Bool.and_eq_true,bne_iff_ne,ne_eq] at hs
    obtain⟨⟨⟨h1,h2⟩,h3⟩,h4⟩:=hs
    replace h2:=eT h2;subst h2;have p1:(part f.type ⟨xs⟩ f.offset).run P w=.ok (.agg ⟨[a1,a2]⟩) w:=Bk h3 hx w;have p2:(part f.type ⟨ys⟩ f.offset).run P w=.ok (.agg ⟨[b1,b2]⟩) w:=Bk h3 hy w;simp only[Op.eqFields,h1,ne_eq,not_false_eq_true,if_true,Sem.run_bind,p1,p2,(Q8 (w:=w) h4 hn d).1,Result.andThen_ok,Sem.run_ite,Sem.run_pure]
    cases r2<;>simp
 | k::ks,_,_,_,fs,o,xs,ys,h,hs,hx,hy=>by
  cases h with
  | @cons _ _ u v us vs r r3 h h2 =>
   cases fs with
   | nil=>simp[Er] at hs
   | cons f fs =>
    simp only[Er,Bool.and_eq_true] at hs
    have ex:xs[o]?=some u:=by rw[<- List.head?_drop,hx];rfl
    have ey:ys[o]?=some v:=by rw[<- List.head?_drop,hy];rfl
    have hx2:xs.drop (o+1)=us++[a1,a2]:=by rw[<- List.drop_drop,hx];rfl
    have hy2:ys.drop (o+1)=vs++[b1,b2]:=by rw[<- List.drop_drop,hy];rfl
    rw[V7 hs.1 (by simpa using ex) (by simpa using ey) h,Sv hn h2 hs.2 hx2 hy2]
    cases r<;>simp
def rH(P:Program)(t:TypeId)(ks k2:List Nat):Bool :=
 (match P.underlying t with
 | some (.struct fs)=>Er P t ks k2 0 fs.toList
 | _=>false)&&!P.stoodInHeld t&&!P.eqGuardType P.depth t
theorem Nc{t:TypeId}{ks k2:List Nat}{us vs:List Value}{a1 a2 b1 b2:Value}{r r2:Bool}(h:rH P t ks k2=true)(hv:Ic ks us vs r)(hn:Ic k2 [a1,a2] [b1,b2] r2)(d:Nat) :
  (Op.equalIn (d+3) t (.agg ⟨us++[a1,a2]⟩) (.agg ⟨vs++[b1,b2]⟩)).run P w=.ok (r&&r2) w/\P.eqGuardType P.depth t=false:=by
 unfold rH at h
 cases hu:P.underlying t with
 | none=>simp[hu] at h
 | some dd =>
  rw[hu] at h
  cases dd<;>simp only[Bool.false_and,Bool.false_eq_true] at h
  rename_i fs
  have hf:P.fieldsOf t=fs:=by simp[Program.fieldsOf,hu]
  simp only[Bool.and_eq_true,Bool.not_eq_true'] at h
  refine⟨?_,h.2⟩
  rw[run_equalIn_struct w (d+2) t _ _ (by rw[hf];exact hu) h.1.2,hf]
  exact Sv (o:=0) hn hv h.1.1 rfl rfl
variable{S:List (Nat×Value)}{G:World->Prop}{d:Nat}{ty t t':TypeId}{pos:String}{af:Array Edge}{gd:Option (Nat×Bool)}{x y:Operand}
instance:DecidableEq Ac:=λ a b=>if h:a.k=b.k/\a.c=b.c/\a.o=b.o/\a.n=b.n then isTrue (by cases a;cases b;simp_all) else isFalse (λ e=>h (by subst e;exact⟨rfl,rfl,rfl,rfl⟩))
instance:DecidableEq Rs:=λ a b=>if h:a.err=b.err/\a.found=b.found/\a.val=b.val/\a.key=b.key/\a.fP=b.fP/\a.ref=b.ref/\a.root=b.root/\a.ro=b.ro then isTrue (by cases a;cases b;simp_all) else isFalse (λ e=>h (by subst e;exact⟨rfl,rfl,rfl,rfl,rfl,rfl,rfl,rfl⟩))
theorem ee(a b:Rs){t:TypeId}(ht:rH P t [0,1,0,2,0,0] [0,1]=true)(d:Nat) :
  (Op.equalIn (d+3) t (.agg ⟨a.cells⟩) (.agg ⟨b.cells⟩)).run P w=.ok (decide (a=b)) w/\P.eqGuardType P.depth t=false:=by
 have h:=Nc (w:=w) ht (Ic.cons (tz.int .i64 a.err b.err) (.cons (.bool a.found b.found) (.cons (.int .u64 a.val b.val) (.cons (.str a.key b.key) (.cons (.int .i64 a.fP b.fP) (.cons (.int .i64 a.ref b.ref) .nil))))))
  (Ic.cons (tz.int .i64 a.root b.root) (.cons (.bool a.ro b.ro) .nil)) d
 have e:((a.err==b.err&&(a.found==b.found&&(a.val==b.val&&(decide (a.key=b.key)&&(a.fP==b.fP&&(a.ref==b.ref&&true))))))&&(a.root==b.root&&(a.ro==b.ro&&true)))=decide (a=b):=by rw[Bool.eq_iff_iff];obtain⟨a1,a2,a3,a4,a5,a6,a7,a8⟩:=a;obtain⟨b1,b2,b3,b4,b5,b6,b7,b8⟩:=b;simp[and_assoc]
 rw[e] at h;exact h
theorem vc{a b:Rs}(hx:ev S x=.agg ⟨a.cells⟩)(hy:ev S y=.agg ⟨b.cells⟩)(ht:rH P t [0,1,0,2,0,0] [0,1]=true):aL P S G ⟨some d,.binOp .eql t x y t',ty,pos,af,gd⟩ (.bool (decide (a=b))):=⟨λ w _=>by have h:=ee (w:=w) a b ht 9997;simp[execOp,hx,hy,run_eqGuard_agg w _ t _ _ _ _ h.2,run_eql_struct,h.1]⟩
theorem ui{a b:Rs}(hx:ev S x=.agg ⟨a.cells⟩)(hy:ev S y=.agg ⟨b.cells⟩)(ht:rH P t [0,1,0,2,0,0] [0,1]=true):aL P S G ⟨some d,.binOp .neq t x y t',ty,pos,af,gd⟩ (.bool (!decide (a=b))):=⟨λ w _=>by have h:=ee (w:=w) a b ht 9997;simp[execOp,hx,hy,run_eqGuard_agg w _ t _ _ _ _ h.2,run_neq_struct,h.1]⟩
end
end
end Go.Ct
namespace Go.Proofs.YtbajmaoegmbfgaaGreat
open Go Go.RowKit Go.Ct
section
end
section
section
variable{k:Cl}{ba bx bm tb n:Nat}{x:XS}{c:Cd}{rs:Rs}{D:List Nat}{A:Fr}{w:World}
theorem Qb{bt:Nat}{d:Bool}(hd:(c.a.k==0)=d)(h:w.heap[bt]?=some (tO ba c n)):Calls Tryz.prog 33 #[.pointer (some ⟨bt,0,none⟩)] w λ e w'=>e=.returned (.bool d)/\St w [] [] w':=by subst hd;exact B5 h
theorem I9{bt:Nat}{d:Bool}{r:Rs}(hd:(c.a.k==0)=d)(ha:(if d=true then c.r else Rs.zero)=r)(h:w.heap[bt]?=some (tO ba c n)):Calls Tryz.prog 34 #[.pointer (some ⟨bt,0,none⟩)] w λ e w'=>e=.returned (.agg ⟨r.cells⟩)/\St w [] [] w':=by
 subst hd ha;have:=Te h;simp only[beq_iff_eq] at this ⊢
 exact this
end
end
section
section
variable{ba bm Bz C:Nat}{D:List Nat}{A:Fr}{w:World}{S:LS}
end
section
variable{ba bm Bz C tp:Nat}{D:List Nat}{w:World}{S:LS}{l:List Int}{a pa:Option Addr}{c pc pos:Nat}
end
end
section
section
variable{ba bm Bz C:Nat}{D:List Nat}{A:Fr}{w:World}{S:LS}{ps:List (Nat×Nat)}
end
end
end Go.Proofs.YtbajmaoegmbfgaaGreat
namespace Go.Ct
open Go Go.RowKit
section
abbrev bx(b:Nat)(cs:List Value):Option Addr×List Value:=(some ⟨b,0,none⟩,cs)
abbrev pt(b:Nat):Value:=.pointer (some ⟨b,0,none⟩)
abbrev fn(f:FuncId)(cap:List Value):Value:=.func (.func f) #[] ⟨cap⟩
abbrev iv(n:Int):Value:=.int .i64 n
theorem Zo{α:Type}{l l' xs:List α}{is:List Nat}(h:oG l is xs l':=by(repeat (first|exact oG.nil|(apply oG.cons;(focus ((repeat (first|exact B8.head|apply B8.tail));done));simp only[sS])));first|done|fail):oG l is xs l':=h
theorem evD{S:List (Nat×Value)}{xs:List Operand}{vs:List Value}(h:rF S xs=vs:=by(repeat (first|exact cN _|(apply cA;focus ((conv=>{lhs;whnf});try exact rfl))));first|done|fail):rF S xs=vs:=h
section
variable{w0 w:World}{M:List Nat}{H H':List (Nat×Obj)}{A F:Fr}{O O':List Ow}
theorem SF.rI(h:SF w0 M H A F O w)(hH:H'.Sublist H:=by repeat (first|exact List.Sublist.refl _|apply List.Sublist.cons))(hO:O'.Sublist O:=by repeat (first|exact List.Sublist.refl _|apply List.Sublist.cons)):SF w0 M H' [] F O' w:=h.ret hH aZ.all hO
theorem SF.rN(h:SF w0 M H A (F++[]) O w)(hH:H'.Sublist H:=by repeat (first|exact List.Sublist.refl _|apply List.Sublist.cons))(hO:O'.Sublist O:=by repeat (first|exact List.Sublist.refl _|apply List.Sublist.cons)):SF w0 M H' [] F O' w:=h.ret hH (aZ.iV λ f hf=>by simpa using hf) hO
variable{P:Program}{S:List (Nat×Value)}{d:Nat}{ty t:TypeId}{pos:String}{af:Array Edge}{gd:Option (Nat×Bool)}{x:Operand}{v:Value}{vs:List Value}{B:Fr}
theorem lS(b:Nat)(cs:List Value)(q:Nat)(hB:∀x∈B,x∈A)(hq:cs[q]?=some v)(hx:ev S x=.pointer (some ⟨b,q,none⟩):=by exact rfl)(ht:one P t=true:=by first|exact H2 rfl|kernel_rfl)(hm:bx b cs∈B:=by simp):aL P S (SF w0 M H A F O) ⟨some d,.load t x,ty,pos,af,gd⟩ v :=qc (a:=some ⟨b,0,none⟩) (q:=q) (hx.trans (by simp[dE,eH])) ht (.bR (Ap.rB (hB _ hm))) hq
theorem Uo(b:Nat)(cs:List Value)(q k:Nat)(hB:∀x∈B,x∈A)(hv:(cs.drop q).take k=vs)(hl:vs.length=k)(hx:ev S x=.pointer (some ⟨b,q,none⟩):=by exact rfl)(ht:jO P t k=true:=by exact eE)(hm:bx b cs∈B:=by simp):aL P S (SF w0 M H A F O) ⟨some d,.load t x,ty,pos,af,gd⟩ (.agg ⟨vs⟩) :=Rw (a:=some ⟨b,0,none⟩) (q:=q) (hx.trans (by simp[dE,eH])) ht (.bR (Ap.rB (hB _ hm))) hv hl
end
end
end Go.Ct
namespace Go.Proofs.YtbajmaoegmbfgaaGreat
open Go.Proofs.Tryz (prog)
open Go Go.RowKit Go.Ct
section
abbrev rP(b:Nat)(f:FuncId)(cap arg:List Value)(B:Fr)(s:Mm)(T:Tr):Prop:=Dr b f cap arg B s λ c' s' B'=>jS b T s c' s' B'
theorem Dr.mr{b:Nat}{f:FuncId}{cap arg:List Value}{B B2:Fr}{s:Mm}{T:Tr}(h:rP b f cap arg B s T)(hb:∀x∈B,x∈B2):rP b f cap arg B2 s T:=h.more hb λ _ _ _ _ hC h=>h.more hC
section
variable{S:List (Nat×Value)}{w0 w:World}{M:List Nat}{H H':List (Nat×Obj)}{A A0 F B:Fr}{O O':List Ow}{ty:TypeId}{pos:String}{af:Array Edge}{gd:Option (Nat×Bool)}{b:Nat}{a:AS}{R:Cd->Mm->Fr->Prop}{is js:List Nat}{f:FuncId}{xs:List Operand}{at_:Array TypeId}{vs cap:List Value}{dst:Option Nat}{x:Operand}{H1:Cd×Fr×AS->List (Nat×Obj)}{F1:Cd×Fr×AS->Fr}{O1:Cd×Fr×AS->List Ow}
theorem zY(hc:∀w,SF w (Ks [(b,fR a)] (gD a)) [(b,fR a)] A0 [] (gD a) w->Calls prog f ⟨vs⟩ w (Ag b R a B (Ks [(b,fR a)] (gD a)) w))
  (ha:rF S xs=vs:=by exact evD) (hp:plain prog f=true:=by kernel_rfl) (hH:oG H is [(b,fR a)] H':=by exact Zo) (hO:oG O js (gD a) O':=by exact Zo) (hA:bG A F O' A0:=by exact bG.of (λ _ h=>Or.inr (Or.inl h)))
  (hl1:is.length=1:=by exact rfl) (hl2:js.length=2:=by exact rfl)
  (hH1:∀y,kG is [(b,fR y.2.2)] H'=H1 y:=by intro x;simp only[kG,uE];exact rfl) (hF1:∀y,y.2.1++F=F1 y:=by intro x;exact rfl) (hO1:∀y,kG js (gD y.2.2) O'=O1 y:=by intro x;simp only[kG,uE,mW];exact rfl) :
  bE prog S (SF w0 M H A F O) ⟨dst,.call {callee:=.value (.func f),args:=⟨xs⟩,argTypes:=at_},ty,pos,af,gd⟩ (Cd×Fr×AS) (λ y=>.agg ⟨y.1.cells⟩) (λ y w=>(R y.1 y.2.2.mm (y.2.1++B)/\y.2.2.Ok/\a.iL y.2.2 y.2.1)/\SF w0 M (H1 y) A (F1 y) (O1 y) w) :=
 cM (hs:=[(b,fR a)]) (os:=gD a) (hs':=λ y:Cd×Fr×AS=>[(b,fR y.2.2)]) (os':=λ y=>gD y.2.2) (Fc:=λ y=>y.2.1) ha hp hc hH hO hA (λ _=>hl1) (λ _=>hl2) hH1 hF1 hO1
theorem Vf(hp:plain prog f=true)(hk:Dr b f cap vs B a.mm R)(ok:a.Ok)(hm:a.mm.Small)(hA0:∀f∈aP a.L,f∈A)(hB:∀x∈B,x∈A)(hx:ev S x=.func (.func f) #[] ⟨cap⟩:=by exact rfl)
  (ha:rF S xs=vs:=by exact evD) (hH:oG H is [(b,fR a)] H':=by exact Zo) (hO:oG O js (gD a) O':=by exact Zo)
  (hl1:is.length=1:=by exact rfl) (hl2:js.length=2:=by exact rfl)
  (hH1:∀y,kG is [(b,fR y.2.2)] H'=H1 y:=by intro x;simp only[kG,uE];exact rfl) (hF1:∀y,y.2.1++F=F1 y:=by intro x;exact rfl) (hO1:∀y,kG js (gD y.2.2) O'=O1 y:=by intro x;simp only[kG,uE,mW];exact rfl) :
  bE prog S (SF w0 M H A F O) ⟨dst,.call {callee:=.value x,args:=⟨xs⟩,argTypes:=at_},ty,pos,af,gd⟩ (Cd×Fr×AS) (λ y=>.agg ⟨y.1.cells⟩) (λ y w=>(R y.1 y.2.2.mm (y.2.1++B)/\y.2.2.Ok/\a.iL y.2.2 y.2.1)/\SF w0 M (H1 y) A (F1 y) (O1 y) w) :=
 cMf (V:=λ y:Cd×Fr×AS=>.agg ⟨y.1.cells⟩) (hs:=[(b,fR a)]) (os:=gD a) (hs':=λ y:Cd×Fr×AS=>[(b,fR y.2.2)]) (os':=λ y=>gD y.2.2) (Fc:=λ y=>y.2.1) (A0:=A) hx ha hp (λ w hw=>hk a _ A w rfl ok hm hA0 hB hw) hH hO (bG.of λ _ h=>.inr (.inl h)) (λ _=>hl1) (λ _=>hl2) hH1 hF1 hO1
end
end
end Go.Proofs.YtbajmaoegmbfgaaGreat
