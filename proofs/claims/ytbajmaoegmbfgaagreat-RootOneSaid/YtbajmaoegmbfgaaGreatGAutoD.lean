/- Merged. -/
import Derived.Test.YtbajmaoegmbfgaaGreatGIxg
import Derived.Test.YtbajmaoegmbfgaaGreatGAr2
import Derived.Test.YtbajmaoegmbfgaaGreatGKw1
import Derived.Test.YtbajmaoegmbfgaaGreatGAr4
import Derived.Test.YtbajmaoegmbfgaaGreatGRn1
set_option linter.unusedSimpArgs false
set_option linter.unusedVariables false
namespace Go.Proofs.YtbajmaoegmbfgaaGreat
open Go.Proofs.Tryz (prog)
open Go Go.RowKit Go.Ct
section
variable{n:Nat}{Q:Exit->Act->World->Prop}{ks:List CK}{S:List (Nat×Value)}{ops:Array Oper}{l ol:List Oper}{pl:qF}{LL:List Nat}{Dl Dp Dq:List Nat}
variable{w0:World}{M:List Nat}{H:List (Nat×Obj)}{A F:Fr}{O:List Ow}{G:World->Prop}{i d:Nat}{v:Value}{op:Op}{ty:TypeId}{pos:String}{af:Array Edge}{gd:Option (Nat×Bool)}{X:Type}{V:X->Value}{G':X->World->Prop}{j g:Nat}{want t:Bool}
variable{ds:List Deferred}
theorem pC(h:LD prog n ds Q ks ops l ((d,v)::S) G)(hq:aK prog S G ⟨some d,op,ty,pos,af,none⟩ v:=by exact Rq wn)(hd:Nat.blt d n=true:=by exact rfl):LD prog n ds Q ks ops (⟨some d,op,ty,pos,af,none⟩::l) S G:=gH hq hd h
theorem sf(h:LD prog n ds Q ks ops l ((d,v)::S) G)(hq:aK prog S G ⟨some d,op,ty,pos,af,none⟩ v:=by first|exact F3 rf wn|exact Hv rf wn|exact o_pick_b rf rf rf)(hd:Nat.blt d n=true:=by exact rfl):LD prog n ds Q ks ops (⟨some d,op,ty,pos,af,none⟩::l) S G:=gH hq hd h
theorem eI(h:LD prog n ds Q ks ops l ((d,v)::S) G)(hq:aK prog S G ⟨some d,op,ty,pos,af,none⟩ v:=by first|exact tR rf wb|exact qS rf wb)(hd:Nat.blt d n=true:=by exact rfl):LD prog n ds Q ks ops (⟨some d,op,ty,pos,af,none⟩::l) S G:=gH hq hd h
theorem nM(h:LD prog n ds Q ks ops l ((d,v)::S) G)(hq:aK prog S G ⟨some d,op,ty,pos,af,none⟩ v:=by exact K6)(hd:Nat.blt d n=true:=by exact rfl):LD prog n ds Q ks ops (⟨some d,op,ty,pos,af,none⟩::l) S G:=gH hq hd h
theorem ef(h:LD prog n ds Q ks ops l ((d,v)::S) G)(hq:aK prog S G ⟨some d,op,ty,pos,af,none⟩ v:=by exact dr)(hd:Nat.blt d n=true:=by exact rfl):LD prog n ds Q ks ops (⟨some d,op,ty,pos,af,none⟩::l) S G:=gH hq hd h
theorem mw(h:∀x,LD prog n ds Q ks ops l ((d,V x)::S) (G' x))(hq:bF prog S G ⟨some d,op,ty,pos,af,none⟩ X V G':=by first|exact gK λ _=>bg rf|exact gK λ _=>Rr rf rfl)(hd:Nat.blt d n=true:=by exact rfl):LD prog n ds Q ks ops (⟨some d,op,ty,pos,af,none⟩::l) S G:=Eg hq hd h
theorem wU(h:∀x,LD prog n ds Q ks ops l ((d,V x)::S) (G' x))(hq:bF prog S G ⟨some d,op,ty,pos,af,none⟩ X V G':=by exact D9)(hd:Nat.blt d n=true:=by exact rfl):LD prog n ds Q ks ops (⟨some d,op,ty,pos,af,none⟩::l) S G:=Eg hq hd h
theorem zL(h:∀x,LD prog n ds Q ks ops l ((d,V x)::S) (G' x))(hq:bF prog S G ⟨some d,op,ty,pos,af,none⟩ X V G':=by exact gZ (Gc wn))(hd:Nat.blt d n=true:=by exact rfl):LD prog n ds Q ks ops (⟨some d,op,ty,pos,af,none⟩::l) S G:=Eg hq hd h
theorem O7(h:∀x,LD prog n ds Q ks ops l S (G' x))(hq:bF prog S G ⟨none,op,ty,pos,af,none⟩ X V G':=by exact Lf):LD prog n ds Q ks ops (⟨none,op,ty,pos,af,none⟩::l) S G:=Qn hq h
theorem zT{φ:X->Prop}(hq:bF prog S G ⟨some d,op,ty,pos,af,none⟩ X V (λ x w=>φ x/\G' x w))(h:∀x,φ x->LD prog n ds Q ks ops l ((d,V x)::S) (G' x))(hd:Nat.blt d n=true:=by exact rfl):LD prog n ds Q ks ops (⟨some d,op,ty,pos,af,none⟩::l) S G:=Eg hq hd λ x=>r9 (h x)
theorem Lo(hq:bF prog S G ⟨none,op,ty,pos,af,none⟩ X V G')(h:∀x,LD prog n ds Q ks ops l S (G' x)):LD prog n ds Q ks ops (⟨none,op,ty,pos,af,none⟩::l) S G:=Qn hq h
theorem vY(h:LD prog n ds Q ks ops (⟨some d,op,ty,pos,af,none⟩::l) S G)(hj:(ops[j]?).bind (·.dst)=some g:=by exact rfl)(hg:Ct.look S g=.bool want:=by exact rfl):LD prog n ds Q ks ops (⟨some d,op,ty,pos,af,some (j,want)⟩::l) S G:=Wv hj hg h
end
end Go.Proofs.YtbajmaoegmbfgaaGreat
namespace Go.Ct
open Go Go.RowKit
section
abbrev Clo:=Option (FuncId×List Value)
abbrev fnV:Clo->Value
 | none=>.nilFunc
 | some p=>.func (.func p.1) #[] ⟨p.2⟩
structure Cd where
 a:Ac
 f:Clo
 g:Clo
 r:Rs
abbrev Cd.cells(c:Cd):List Value:=[.int .i64 c.a.k,.int .i64 c.a.c,.int .i64 c.a.o,.int .i64 c.a.n,fnV c.f,fnV c.g,.int .i64 c.r.err,.bool c.r.found,.int .u64 c.r.val,.string c.r.key,.int .i64 c.r.fY,.int .i64 c.r.ref,.int .i64 c.r.root,.bool c.r.ro]
abbrev zG(r:Rs):Cd:=⟨⟨0,0,0,0⟩,none,none,r⟩
abbrev nK(c:Int)(f:FuncId)(cap:List Value):Cd:=⟨⟨1,c,0,0⟩,some (f,cap),none,⟨0,false,0,⟨#[]⟩,0,0,0,false⟩⟩
abbrev uB(c o n:Int)(g:FuncId)(cap:List Value):Cd:=⟨⟨2,c,o,n⟩,none,some (g,cap),⟨0,false,0,⟨#[]⟩,0,0,0,false⟩⟩
theorem cN(c:Cd):c.cells.all (·.oneCell')=true:=by
 obtain⟨a,f,g,r⟩:=c
 cases f<;>cases g<;>rfl
def Mr(cs:List Int)(c o:Int):Bool:=decide (1<=c/\c<=(cs.length:Int)/\cs.getD (c-1).toNat 0=o)
theorem D5{cs:List Int}{c o:Int}{r:Bool}(h:r=true↔fI cs c o):r=Mr cs c o:=by
 rw[Bool.eq_iff_iff,h]
 unfold Mr fI
 rw[decide_eq_true_eq]
end
end Go.Ct
namespace Go.Proofs.YtbajmaoegmbfgaaGreat
open Go.Proofs.Tryz (prog)
section
open Go.RowKit Go.Ct
theorem Wg(r:Rs)(w:World):Calls prog 77 #[.agg ⟨r.cells⟩] w λ e w'=>e=.returned (.agg ⟨(zG r).cells⟩)/\St w [] [] w':=by
 refine enter Tryz.func77 Tryz.ntmps77 rfl rfl (SF.s0 w) ?_
 simp only[cE]
 refine J0 ?_;refine bN (λ x1=>?_);refine aJ (λ x2=>?_);refine aG ?_;refine oX ?_;refine vG ?_
 refine bB Tryz.results77 (λ w hw=>?_)
 exact⟨rfl,hw.done⟩
theorem nL(c:Int)(f:FuncId)(cap:List Value)(w:World):Calls prog 130 #[.int .i64 c,.func (.func f) #[] ⟨cap⟩] w λ e w'=>e=.returned (.agg ⟨(nK c f cap).cells⟩)/\St w [] [] w':=by
 refine enter Tryz.func130 Tryz.ntmps130 rfl rfl (SF.s0 w) ?_
 simp only[cE]
 refine J0 ?_;refine aJ (λ x4=>?_);refine Kd0 ?_;refine bK ?_;refine aA ?_;refine vG ?_
 refine bB Tryz.results130 (λ w hw=>?_)
 exact⟨rfl,hw.done⟩
theorem tC(c o n:Int)(f:FuncId)(cap:List Value)(w:World):Calls prog 119 #[.int .i64 c,.int .i64 o,.int .i64 n,.func (.func f) #[] ⟨cap⟩] w λ e w'=>e=.returned (.agg ⟨(uB c o n f cap).cells⟩)/\St w [] [] w':=by
 refine enter Tryz.func119 Tryz.ntmps119 rfl rfl (SF.s0 w) ?_
 simp only[cE]
 refine J0 ?_;refine aJ (λ x8=>?_);refine aG ?_;refine Kb6 ?_;refine bK ?_;refine aA ?_;refine vG ?_
 refine bB Tryz.results119 (λ w hw=>?_)
 exact⟨rfl,hw.done⟩
end
section
open Go Go.RowKit Go.Ct
theorem l8(p:Option Addr)(a:Value)(w:World):(callMethod (.iface 42 (.pointer p)) "Load" #[a]).run prog w=.ok (.enter 35 #[.pointer p,a]) w:=by kernel_rfl
theorem sj(p:Option Addr)(a b c:Value)(w:World):(callMethod (.iface 42 (.pointer p)) "CAS" #[a,b,c]).run prog w=.ok (.enter 279 #[.pointer p,a,b,c]) w:=by kernel_rfl
theorem Di(p:Option Addr)(w:World):(binOp .neq 123 (.iface 42 (.pointer p)) .nilIface).run prog w=.ok (.bool true) w:=by kernel_rfl
theorem aBs(f:Fn)(a b:Array Value)(w:World):(binOp .eql 135 (.func f a b) .nilFunc).run prog w=.ok (.bool false) w:=by kernel_rfl
theorem aB4(f:Fn)(a b:Array Value)(w:World):(binOp .eql 129 (.func f a b) .nilFunc).run prog w=.ok (.bool false) w:=by kernel_rfl
theorem aB5(f:Fn)(a b:Array Value)(w:World):(binOp .eql 130 (.func f a b) .nilFunc).run prog w=.ok (.bool false) w:=by kernel_rfl
theorem Rt(p:Option Addr):Idle prog 161 #[.pointer p]:=λ w=>by
 refine callsD_of_wpS Tryz.func161 rfl λ c₀ cs hu=>?_
 apply wpS_seq
 apply wpS_region
 simp[wpOpsS,go_sem,recoverD,hu,Tryz.ntmps161,Exit.thenS]
 refine wpS_cond (t:=false) (by simp[Act.eval,Array.replicate]) ?_
 simp only[Bool.false_eq_true,if_false]
 refine wpS_of_wp (wp_skip ?_)
 cases c₀
 simp_all[bodyPostS,results,Tryz.results161]
theorem yE(p:Option Addr):Idle prog 129 #[.pointer p]:=λ w=>by
 refine callsD_of_wpS Tryz.func129 rfl λ c₀ cs hu=>?_
 apply wpS_seq
 apply wpS_region
 simp[wpOpsS,go_sem,recoverD,hu,Tryz.ntmps129,Exit.thenS]
 refine wpS_cond (t:=false) (by simp[Act.eval,Array.replicate]) ?_
 simp only[Bool.false_eq_true,if_false]
 refine wpS_of_wp (wp_skip ?_)
 cases c₀
 simp_all[bodyPostS,results,Tryz.results129]
section
variable{S:List (Nat×Value)}{w0 w:World}{M:List Nat}{H:List (Nat×Obj)}{A F:Fr}{O:List Ow}{ty:TypeId}{pos:String}{af:Array Edge}{gd:Option (Nat×Bool)}{X:Type}{V:X->Value}
end
end
section
open Go Go.RowKit Go.Ct
section
variable{S:List (Nat×Value)}{w0 w:World}{M:List Nat}{H:List (Nat×Obj)}{A F:Fr}{O:List Ow}{ty:TypeId}{pos:String}{af:Array Edge}{gd:Option (Nat×Bool)}{X:Type}{V:X->Value}
end
end
end Go.Proofs.YtbajmaoegmbfgaaGreat
namespace Go.Ct
open Go Go.RowKit
section
structure AS where
 L:List aU
 cs:List Int
 gen:Int
 acc:Int
 pn:Option Addr
 cn:Nat
 pc:Option Addr
 cc:Nat
def AS.mm(a:AS):Mm:=⟨(dH a.L).map aU.c,a.cs,a.gen⟩
structure Yu(s:Mm):Prop where
 nd:∀v∈s.nodes,lX s.nodes.length s.cs.length v
 cs:∀v∈s.cs,v<=s.nodes.length
 two:2<=s.nodes.length
structure AS.Ok(a:AS):Prop where
 fit:Fits a.L
 mo:Yu a.mm
structure Mm.Le(s s1:Mm):Prop where
 nodes:∃N,s1.nodes=s.nodes++N
 cl:s.cs.length<=s1.cs.length
def Mm.Small(s:Mm):Prop:=s.nodes.length<=137438953472/\s.cs.length<=137438953472
structure AS.gQ(a a':AS)(F:Fr):Prop where
 le:a.mm.Le a'.mm
 fam:∀f∈aL a'.L,f.2=[]∨f∈aL a.L∨f∈F
theorem Mm.Le.refl(s:Mm):s.Le s:=⟨⟨[],by simp⟩,Nat.le_refl _⟩
theorem Mm.Le.trans{s t u:Mm}(h:s.Le t)(h2:t.Le u):s.Le u:=by
 obtain⟨⟨N,e⟩,c⟩:=h
 obtain⟨⟨M,e2⟩,c2⟩:=h2
 exact⟨⟨N++M,by rw[e2,e,List.append_assoc]⟩,Nat.le_trans c c2⟩
theorem Mm.Le.len{s t:Mm}(h:s.Le t):s.nodes.length<=t.nodes.length:=by obtain⟨N,e⟩:=h.nodes;rw[e,List.length_append];omega
theorem Mm.Le.nd{s t:Mm}(h:s.Le t){r:Int}(hr:r<=s.nodes.length):bD t.nodes r=bD s.nodes r:=by obtain⟨N,e⟩:=h.nodes;rw[e];exact sJ hr
theorem AS.gQ.refl(a:AS):a.gQ a []:=⟨Mm.Le.refl _,λ f hf=>.inr (.inl hf)⟩
theorem AS.gQ.more{a a':AS}{F F':Fr}(h:a.gQ a' F)(hs:∀f∈F,f∈F'):a.gQ a' F':=⟨h.le,λ f hf=>(h.fam f hf).imp_right λ h=>h.imp_right λ h=>hs f h⟩
theorem AS.gQ.trans{a b c:AS}{F G:Fr}(h:a.gQ b F)(h2:b.gQ c G):a.gQ c (G++F):=⟨h.le.trans h2.le,λ f hf=>by
 rcases h2.fam f hf with h1|h1|h1
 ·exact .inl h1
 ·rcases h.fam f h1 with h1|h1|h1
  ·exact .inl h1
  ·exact .inr (.inl h1)
  ·exact .inr (.inr (List.mem_append_right _ h1))
 ·exact .inr (.inr (List.mem_append_left _ h1))⟩
theorem Yu.at{s:Mm}(h:Yu s)(r:Int):lX s.nodes.length s.cs.length (bD s.nodes r):=by
 unfold bD
 split
 ·refine h.nd _ ?_
  rw[jS,List.getElem?_eq_getElem (by omega)]
  exact List.getElem_mem _
 ·exact No _ _
theorem Yu.cell{s:Mm}(h:Yu s)(c:Int):aY s.cs c<=s.nodes.length:=by
 unfold aY
 split
 ·exact mC h.cs _
 ·exact bH _
theorem Yu.iQ{s:Mm}(h:Yu s){c o n:Int}(hn:n<=s.nodes.length):Yu ⟨s.nodes,eC s.cs c o n,s.gen⟩:=by
 refine⟨λ v hv=>by simp only[eZ];exact h.nd v hv,λ v hv=>?_,h.two⟩
 simp only[eC] at hv
 split at hv
 ·rcases List.mem_or_eq_of_mem_set hv with hv|rfl
  ·exact h.cs v hv
  ·exact hn
 ·exact h.cs v hv
def gW:Tr->Mm->Tr×Mm
 | .alloc n i k,s=>gW (k ((s.nodes.length+1:Nat):Int)) (s.push n i)
 | .cell i k,s=>gW (k ((s.cs.length+1:Nat):Int)) ⟨s.nodes,s.cs++[i],s.gen⟩
 | .gen k,s=>gW (k (s.gen+1)) ⟨s.nodes,s.cs,s.gen+1⟩
 | .node r k,s=>gW (k (bD s.nodes r)) s
 | t,s=>(t,s)
def nxT:Tr->Mm->Tr×Mm
 | .load c k,s=>(k (aY s.cs c),s)
 | .iQ c o n k,s=>(k (Mr s.cs c o),⟨s.nodes,eC s.cs c o n,s.gen⟩)
 | t,s=>(t,s)
def vF(p:Tr×Mm):Tr×Mm:=gW (nxT p.1 p.2).1 (nxT p.1 p.2).2
def Tr.live:Tr->Bool
 | .done _=>false
 | _=>true
def kP(p:Tr×Mm):Nat->Tr×Mm
 | 0=>p
 | k+1=>vF (kP p k)
end
end Go.Ct
namespace Go.Proofs.YtbajmaoegmbfgaaGreat
open Go.Proofs.Tryz (prog)
open Go Go.RowKit Go.Ct
section
abbrev dL(a:AS):Obj:=aO a.L a.cs a.gen a.acc a.pn a.cn a.pc a.cc
abbrev dZ(a:AS):List Ow:=mW a.L a.cs a.pn a.cn a.pc a.cc
def Ax(b:Nat)(R:Cd->Mm->Fr->Prop)(a:AS)(B:Fr)(D:List Nat)(w:World):Ending->World->Prop:=λ e w'=>∃y:Cd×Fr×AS,e=.returned (.agg ⟨y.1.cells⟩)/\(R y.1 y.2.2.mm (y.2.1++B)/\y.2.2.Ok/\a.gQ y.2.2 y.2.1)/\SF w D [(b,dL y.2.2)] [] y.2.1 (dZ y.2.2) w'
def yS(b:Nat)(f:FuncId)(cap:List Value)(arg:List Value)(B:Fr)(s:Mm)(R:Cd->Mm->Fr->Prop):Prop :=
 ∀(a:AS) (D:List Nat) (A:Fr) (w:World),a.mm=s->a.Ok->s.Small->(∀f∈aL a.L,f∈A)->(∀f∈B,f∈A)->SF w D [(b,dL a)] A [] (dZ a) w->Calls prog f ⟨arg++cap⟩ w (Ax b R a B D w)
def kB(b:Nat):Tr->Mm->Cd->Mm->Fr->Prop
 | .done r,s,c,s2,_=>s2=s/\c=zG r
 | .load x k,s,c,s2,B=>s2=s/\x<=9223372036854775807/\∃f cap,c=nK x f cap/\plain prog f=true/\∀(v:Int) (s1:Mm),s.Le s1->v<=s1.nodes.length->yS b f cap [.int .i64 v] B s1 λ c' s' B'=>kB b (k v) s1 c' s' B'
 | .iQ x o n k,s,c,s2,B=>s2=s/\x<=9223372036854775807/\n<=s.nodes.length/\∃f cap,c=uB x o n f cap/\plain prog f=true/\∀(v:Bool) (s1:Mm),s.Le s1->yS b f cap [.bool v] B s1 λ c' s' B'=>kB b (k v) s1 c' s' B'
 | .alloc n i k,s,c,s2,B=>kB b (k ((s.nodes.length+1:Nat):Int)) (s.push n i) c s2 B
 | .cell i k,s,c,s2,B=>kB b (k ((s.cs.length+1:Nat):Int)) ⟨s.nodes,s.cs++[i],s.gen⟩ c s2 B
 | .gen k,s,c,s2,B=>kB b (k (s.gen+1)) ⟨s.nodes,s.cs,s.gen+1⟩ c s2 B
 | .node r k,s,c,s2,B=>r<=s.nodes.length/\kB b (k (bD s.nodes r)) s c s2 B
 | .stuck,_,_,_,_=>True
def zN(b:Nat)(K:Int->Tr)(s:Mm)(f:FuncId)(cap:List Value)(B:Fr):Prop:=plain prog f=true/\∀(v:Int) (s1:Mm),s.Le s1->v<=s1.nodes.length->yS b f cap [.int .i64 v] B s1 λ c' s' B'=>kB b (K v) s1 c' s' B'
def So(b:Nat)(K:Bool->Tr)(s:Mm)(f:FuncId)(cap:List Value)(B:Fr):Prop:=plain prog f=true/\∀(v:Bool) (s1:Mm),s.Le s1->yS b f cap [.bool v] B s1 λ c' s' B'=>kB b (K v) s1 c' s' B'
def U2(b:Nat)(t:Tr)(s:Mm)(f:FuncId)(cap:List Value)(B:Fr):Prop:=plain prog f=true/\∀s1:Mm,s.Le s1->yS b f cap [] B s1 λ c' s' B'=>kB b t s1 c' s' B'
section
variable{b:Nat}{f:FuncId}{cap arg:List Value}{B B2:Fr}{s s1 s2:Mm}{t:Tr}{c:Cd}
theorem yS.more{R R2:Cd->Mm->Fr->Prop}(h:yS b f cap arg B s R)(hb:∀x∈B,x∈B2)(hR:∀c m C C2,(∀x∈C,x∈C2)->R c m C->R2 c m C2):yS b f cap arg B2 s R2:=λ a D A w e1 ok hs h1 h2 hw =>
 (h a D A w e1 ok hs h1 (λ x hx=>h2 x (hb x hx)) hw).mono λ e w' ⟨y,he,⟨hr,h3⟩,hs⟩=>⟨y,he,⟨hR _ _ _ _ (λ x hx=>by
  rcases List.mem_append.1 hx with h1|h1
  ·exact List.mem_append_left _ h1
  ·exact List.mem_append_right _ (hb x h1)) hr,h3⟩,hs⟩
theorem kB.more:∀{t:Tr} {s s2:Mm} {c:Cd} {B B2:Fr},kB b t s c s2 B->(∀x∈B,x∈B2)->kB b t s c s2 B2
 | .done _,_,_,_,_,_,h,_=>h
 | .load _ k,_,_,_,_,_,⟨h0,h1,f,cap,h2,h3,h4⟩,hb=>⟨h0,h1,f,cap,h2,h3,λ v s1 l hv=>(h4 v s1 l hv).more hb λ _ _ _ _ hC h=>kB.more (t:=k v) h hC⟩
 | .iQ _ _ _ k,_,_,_,_,_,⟨h0,h1,hn,f,cap,h2,h3,h4⟩,hb=>⟨h0,h1,hn,f,cap,h2,h3,λ v s1 l=>(h4 v s1 l).more hb λ _ _ _ _ hC h=>kB.more (t:=k v) h hC⟩
 | .alloc n i k,s,_,_,_,_,h,hb=>kB.more (t:=k ((s.nodes.length+1:Nat):Int)) h hb
 | .cell i k,s,_,_,_,_,h,hb=>kB.more (t:=k ((s.cs.length+1:Nat):Int)) h hb
 | .gen k,s,_,_,_,_,h,hb=>kB.more (t:=k (s.gen+1)) h hb
 | .node r k,s,_,_,_,_,h,hb=>⟨h.1,kB.more (t:=k (bD s.nodes r)) h.2 hb⟩
 | .stuck,_,_,_,_,_,_,_=>trivial
theorem zN.more{K:Int->Tr}(h:zN b K s f cap B)(hb:∀x∈B,x∈B2):zN b K s f cap B2:=⟨h.1,λ v s1 l hv=>(h.2 v s1 l hv).more hb λ _ _ _ _ hC h=>kB.more h hC⟩
theorem So.more{K:Bool->Tr}(h:So b K s f cap B)(hb:∀x∈B,x∈B2):So b K s f cap B2:=⟨h.1,λ v s1 l=>(h.2 v s1 l).more hb λ _ _ _ _ hC h=>kB.more h hC⟩
theorem U2.more(h:U2 b t s f cap B)(hb:∀x∈B,x∈B2):U2 b t s f cap B2:=⟨h.1,λ s1 l=>(h.2 s1 l).more hb λ _ _ _ _ hC h=>kB.more h hC⟩
theorem zN.le{K:Int->Tr}(h:zN b K s f cap B)(l:s.Le s1):zN b K s1 f cap B:=⟨h.1,λ v s2 l2 hv=>h.2 v s2 (l.trans l2) hv⟩
theorem So.le{K:Bool->Tr}(h:So b K s f cap B)(l:s.Le s1):So b K s1 f cap B:=⟨h.1,λ v s2 l2=>h.2 v s2 (l.trans l2)⟩
theorem U2.le(h:U2 b t s f cap B)(l:s.Le s1):U2 b t s1 f cap B:=⟨h.1,λ s2 l2=>h.2 s2 (l.trans l2)⟩
theorem kB.kind(h:kB b t s c s2 B)(ha:cS t=true):(c.a.k=0↔t.live=false)/\(∀r,t=.done r->c.r=r)/\(∀x,t.acc=some x->c.a=x):=by
 cases t with
 | done r=>rw[h.2];exact⟨⟨λ _=>rfl,λ _=>rfl⟩,(λ r e=>by cases e;rfl),(λ x e=>nomatch e)⟩
 | load x k =>
  obtain⟨_,_,f,cap,e,_⟩:=h
  rw[e]
  exact⟨⟨λ h=>absurd h (show(1:Int)≠0 by decide),(λ h=>nomatch h)⟩,(λ r e=>nomatch e),λ x e=>by cases e;rfl⟩
 | iQ x o n k =>
  obtain⟨_,_,_,f,cap,e,_⟩:=h
  rw[e]
  exact⟨⟨λ h=>absurd h (show(2:Int)≠0 by decide),(λ h=>nomatch h)⟩,(λ r e=>nomatch e),λ x e=>by cases e;rfl⟩
 | alloc n i k=>cases ha
 | cell i k=>cases ha
 | gen k=>cases ha
 | node r k=>cases ha
 | stuck=>cases ha
theorem kB.le(h:kB b t s c s2 B)(ha:cS t=true)(l:s.Le s1):kB b t s1 c s1 B:=by
 cases t with
 | done r=>exact⟨rfl,h.2⟩
 | load x k =>
  obtain⟨_,h1,f,cap,e,hp,hk⟩:=h
  exact⟨rfl,h1,f,cap,e,hp,λ v s3 l3 hv=>hk v s3 (l.trans l3) hv⟩
 | iQ x o n k =>
  obtain⟨_,h1,hn,f,cap,e,hp,hk⟩:=h
  exact⟨rfl,h1,by have:=l.len;omega,f,cap,e,hp,λ v s3 l3=>hk v s3 (l.trans l3)⟩
 | alloc n i k=>cases ha
 | cell i k=>cases ha
 | gen k=>cases ha
 | node r k=>cases ha
 | stuck=>cases ha
theorem kB.gW:∀{t:Tr} {s s2:Mm} {c:Cd} {n m:Nat},bS t n m->kB b t s c s2 B->(gW t s).2=s2/\cS (gW t s).1=true/\kB b (gW t s).1 s2 c s2 B
 | .done _,_,_,_,_,_,_,h=>by obtain⟨rfl,h2⟩:=h;exact⟨rfl,rfl,rfl,h2⟩
 | .load _ k,_,_,_,_,_,_,h=>by obtain⟨rfl,h2⟩:=h;exact⟨rfl,rfl,rfl,h2⟩
 | .iQ _ _ _ k,_,_,_,_,_,_,h=>by obtain⟨rfl,h2⟩:=h;exact⟨rfl,rfl,rfl,h2⟩
 | .alloc n i k,s,_,_,_,0,ht,h=>ht.elim
 | .alloc n i k,s,_,_,_,_+1,ht,h=>kB.gW (t:=k ((s.nodes.length+1:Nat):Int)) (ht _) h
 | .cell i k,s,_,_,_,0,ht,h=>ht.elim
 | .cell i k,s,_,_,_,_+1,ht,h=>kB.gW (t:=k ((s.cs.length+1:Nat):Int)) (ht _) h
 | .gen k,s,_,_,_,0,ht,h=>ht.elim
 | .gen k,s,_,_,_,_+1,ht,h=>kB.gW (t:=k (s.gen+1)) (ht _) h
 | .node r k,s,_,_,_,_,ht,h=>kB.gW (t:=k (bD s.nodes r)) (ht _) h.2
 | .stuck,_,_,_,_,_,ht,_=>ht.elim
end
section
variable{S:List (Nat×Value)}{w0 w:World}{M:List Nat}{H:List (Nat×Obj)}{A F:Fr}{O:List Ow}{ty:TypeId}{pos:String}{af:Array Edge}{gd:Option (Nat×Bool)}{X:Type}{V:X->Value}
theorem cMf{φ:X->Prop}{hs H':List (Nat×Obj)}{os O':List Ow}{hs' H1:X->List (Nat×Obj)}{os' O1:X->List Ow}{Fc F1:X->Fr}{A0:Fr}{is js:List Nat}{f:FuncId}{cap:List Value}{xs:List Operand}{at_:Array TypeId}{vs:List Value}{dst:Option Nat}{x:Operand}
  (hx:ev S x=.func (.func f) #[] ⟨cap⟩:=by exact rfl) (ha:rP S xs=vs:=by(repeat (first|exact cI _|(apply bY;focus ((conv=>{lhs;whnf});try exact rfl))));first|done|fail) (hp:plain prog f=true)
  (hc:∀w,SF w (Ks hs os) hs A0 [] os w->Calls prog f ⟨vs++cap⟩ w λ e w'=>∃x,e=.returned (V x)/\φ x/\SF w (Ks hs os) (hs' x) [] (Fc x) (os' x) w')
  (hH:nQ H is hs H':=by(repeat (first|exact nQ.nil|(apply nQ.cons;(focus ((repeat (first|exact Ba.head|apply Ba.tail));done));simp only[sM])));first|done|fail)
  (hO:nQ O js os O':=by(repeat (first|exact nQ.nil|(apply nQ.cons;(focus ((repeat (first|exact Ba.head|apply Ba.tail));done));simp only[sM])));first|done|fail)
  (hA:bI A F O' A0:=by exact bI.of (λ _ h=>Or.inr (Or.inl h)))
  (hl1:∀x,is.length=(hs' x).length:=by intro x;exact rfl) (hl2:∀x,js.length=(os' x).length:=by intro x;exact rfl)
  (hH1:∀x,jR is (hs' x) H'=H1 x:=by intro x;first|(simp only[jR,tM];exact rfl)|exact rfl) (hF1:∀x,Fc x++F=F1 x:=by intro x;first|(simp only[List.nil_append,List.cons_append];exact rfl)|exact rfl) (hO1:∀x,jR js (os' x) O'=O1 x:=by intro x;simp only[jR,tM,mW];exact rfl) :
  bF prog S (SF w0 M H A F O) ⟨dst,.call {callee:=.value x,args:=⟨xs⟩,argTypes:=at_},ty,pos,af,gd⟩ X V (λ x w=>φ x/\SF w0 M (H1 x) A (F1 x) (O1 x) w) :=
 iL (um hx hp ha) λ w hw=>(hc w (hw.rY hH hO hA)).mono λ _ _ ⟨x,he,hx,hs⟩=>⟨x,he,hx,by
  have:=hw.zR (hs':=hs' x) (Hc:=[]) (os':=os' x) (Oc:=[]) hH hO (by simpa using hs) (hl1 x) (hl2 x)
  rw[<- hH1 x,<- hF1 x,<- hO1 x]
  simpa using this⟩
end
end
end Go.Proofs.YtbajmaoegmbfgaaGreat
namespace Go.Ct
open Go Go.RowKit
section
theorem SF.same{w w':World}{b:Nat}{o:Obj}(h:SF w [b] [(b,o)] [] [] [] w')(hb:w.heap[b]?=some o):St w [] [] w' :=
 ⟨h.st.os,h.st.tape,h.st.output,h.st.size,λ k hk _=>by
  by_cases e:k=b
  ·subst e;rw[h.st.has (k,o) (List.mem_singleton.2 rfl),hb]
  ·exact h.st.kK k hk (by simpa using e),λ _ h=>(List.not_mem_nil h).elim,λ _ h=>(List.not_mem_nil h).elim,List.nodup_nil⟩
theorem SF.vn{w:World}{b:Nat}{o:Obj}(hb:w.heap[b]?=some o):SF w [b] [(b,o)] [] [] [] w :=
 ⟨⟨rfl,rfl,rfl,Nat.le_refl _,λ _ _ _=>rfl,λ p hp=>by rw[List.mem_singleton.1 hp];exact hb,λ p hp=>by rw[List.mem_singleton.1 hp];exact .inl (List.mem_singleton.2 rfl),by simp⟩,λ _ h=>(List.not_mem_nil h).elim,λ _ h=>(List.not_mem_nil h).elim,λ _ h=>(List.not_mem_nil h).elim,by simp[Ks]⟩
end
end Go.Ct
namespace Go.Proofs.YtbajmaoegmbfgaaGreat
open Go Go.RowKit Go.Ct
section
abbrev tkC(b:Nat)(c:Cd)(n:Nat)(z:Bool):List Value:=[.iface 42 (.pointer (some ⟨b,0,none⟩)),.int .i64 c.a.k,.int .i64 c.a.c,.int .i64 c.a.o,.int .i64 c.a.n,fnV c.f,fnV c.g,.int .i64 c.r.err,.bool c.r.found,.int .u64 c.r.val,.string c.r.key,.int .i64 c.r.fY,.int .i64 c.r.ref,.int .i64 c.r.root,.bool c.r.ro,.int .i64 ((n:Nat):Int),.bool z]
abbrev tO(b:Nat)(c:Cd)(n:Nat):Obj:=.cells ⟨tkC b c n false⟩ 141 (0,0)
section
variable{D:List Nat}{A B:Fr}{L:List aU}{cs:List Int}{gen acc:Int}{pn pc:Option Addr}{cn cc b bt n:Nat}{w:World}{c:Cd}
theorem wD(h:w.heap[bt]?=some (tO b c n)):Calls Tryz.prog 33 #[.pointer (some ⟨bt,0,none⟩)] w λ e w'=>e=.returned (.bool (c.a.k==0))/\St w [] [] w':=by
 refine enter Tryz.func33 Tryz.ntmps33 rfl rfl (SF.vn h) ?_
 simp only[cE]
 refine cZ ?_;refine Ip ?_;refine aE ?_;refine J3 ?_;refine Qq ?_
 refine aN Tryz.results33 (λ w hw=>?_)
 exact⟨rfl,hw.aX.same h⟩
theorem Ru(h:w.heap[bt]?=some (tO b c n)):Calls Tryz.prog 34 #[.pointer (some ⟨bt,0,none⟩)] w λ e w'=>e=.returned (.agg ⟨(if c.a.k=0 then c.r else Rs.zero).cells⟩)/\St w [] [] w':=by
 refine enter Tryz.func34 Tryz.ntmps34 rfl rfl (SF.vn h) ?_
 simp only[cE]
 refine J0 ?_;refine aJ (λ x2=>?_);refine aG ?_;refine lI ?_;refine aM (cV (hc:=λ w1 hw=>wD (hw.st.at cR))) (λ x4=>?_);refine pN ?_
 refine bE (λ c5=>?_) (λ c5=>?_)
 ·refine Kb8 ?_
  refine bB Tryz.results34 (λ w hw=>?_)
  refine⟨?_,hw.aX.same h⟩
  rw[if_neg (by simpa using c5)]
  rfl
 ·refine aS ?_;refine Ip ?_;refine aE ?_;refine aB (aP (k:=8) (vs:=c.r.cells) rf cR eE rfl rfl) rfl ?_;refine J5 ?_
  refine bB Tryz.results34 (λ w hw=>?_)
  refine⟨?_,hw.aX.same h⟩
  rw[if_pos (by simpa using c5)]
  rfl
end
end
end Go.Proofs.YtbajmaoegmbfgaaGreat
