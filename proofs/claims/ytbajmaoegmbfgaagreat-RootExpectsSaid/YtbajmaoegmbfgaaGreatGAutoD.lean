/- The rules of one operation, in a frame that has deferred calls. Written by a program. -/
import Derived.Test.YtbajmaoegmbfgaaGreatGIxg
import Derived.Test.YtbajmaoegmbfgaaGreatGAr2
import Derived.Test.YtbajmaoegmbfgaaGreatGWo4
import Derived.Test.YtbajmaoegmbfgaaGreatGAr4
import Derived.Test.YtbajmaoegmbfgaaGreatGRn1

set_option linter.unusedSimpArgs false
set_option linter.unusedVariables false
namespace Go.Proofs.YtbajmaoegmbfgaaGreat
section
open Go Go.RowKit Go.Ct
variable{n:Nat}{Q:Exit->Act->World->Prop}{ks:List CK}{S:List (Nat×Value)}{ops:Array Oper}{l ol:List Oper}{pl:pL}{LL:List Nat}{Dl Dp Dq:List Nat}
variable{w0:World}{M:List Nat}{H:List (Nat×Obj)}{A F:Fr}{O:List Ow}{G:World->Prop}{i d:Nat}{v:Value}{op:Op}{ty:TypeId}{pos:String}{af:Array Edge}{gd:Option (Nat×Bool)}{X:Type}{V:X->Value}{G':X->World->Prop}{j g:Nat}{want t:Bool}
variable{ds:List Deferred}
theorem oS(h:LD Tryz.prog n ds Q ks ops l ((d,v)::S) G)(hq:aK Tryz.prog S G ⟨some d,op,ty,pos,af,none⟩ v:=by exact Ql wn)(hd:Nat.blt d n=true:=by exact rfl):LD Tryz.prog n ds Q ks ops (⟨some d,op,ty,pos,af,none⟩::l) S G:=gA hq hd h
theorem r9(h:LD Tryz.prog n ds Q ks ops l ((d,v)::S) G)(hq:aK Tryz.prog S G ⟨some d,op,ty,pos,af,none⟩ v:=by first|exact Gw rf wn|exact Er rf wn|exact o_pick_b rf rf rf)(hd:Nat.blt d n=true:=by exact rfl):LD Tryz.prog n ds Q ks ops (⟨some d,op,ty,pos,af,none⟩::l) S G:=gA hq hd h
theorem eF(h:LD Tryz.prog n ds Q ks ops l ((d,v)::S) G)(hq:aK Tryz.prog S G ⟨some d,op,ty,pos,af,none⟩ v:=by first|exact sH rf sw|exact qI rf sw)(hd:Nat.blt d n=true:=by exact rfl):LD Tryz.prog n ds Q ks ops (⟨some d,op,ty,pos,af,none⟩::l) S G:=gA hq hd h
theorem nA(h:LD Tryz.prog n ds Q ks ops l ((d,v)::S) G)(hq:aK Tryz.prog S G ⟨some d,op,ty,pos,af,none⟩ v:=by exact Ki)(hd:Nat.blt d n=true:=by exact rfl):LD Tryz.prog n ds Q ks ops (⟨some d,op,ty,pos,af,none⟩::l) S G:=gA hq hd h
theorem Yw(h:LD Tryz.prog n ds Q ks ops l ((d,v)::S) G)(hq:aK Tryz.prog S G ⟨some d,op,ty,pos,af,none⟩ v:=by exact eh)(hd:Nat.blt d n=true:=by exact rfl):LD Tryz.prog n ds Q ks ops (⟨some d,op,ty,pos,af,none⟩::l) S G:=gA hq hd h
theorem X9(h:∀x,LD Tryz.prog n ds Q ks ops l ((d,V x)::S) (G' x))(hq:bD Tryz.prog S G ⟨some d,op,ty,pos,af,none⟩ X V G':=by first|exact gS λ _=>j6 rf|exact gS λ _=>Ry rf rfl)(hd:Nat.blt d n=true:=by exact rfl):LD Tryz.prog n ds Q ks ops (⟨some d,op,ty,pos,af,none⟩::l) S G:=D8 hq hd h
theorem wI(h:∀x,LD Tryz.prog n ds Q ks ops l ((d,V x)::S) (G' x))(hq:bD Tryz.prog S G ⟨some d,op,ty,pos,af,none⟩ X V G':=by exact Dw)(hd:Nat.blt d n=true:=by exact rfl):LD Tryz.prog n ds Q ks ops (⟨some d,op,ty,pos,af,none⟩::l) S G:=D8 hq hd h
theorem yN(h:∀x,LD Tryz.prog n ds Q ks ops l ((d,V x)::S) (G' x))(hq:bD Tryz.prog S G ⟨some d,op,ty,pos,af,none⟩ X V G':=by exact gO (Hg wn))(hd:Nat.blt d n=true:=by exact rfl):LD Tryz.prog n ds Q ks ops (⟨some d,op,ty,pos,af,none⟩::l) S G:=D8 hq hd h
theorem M8(h:∀x,LD Tryz.prog n ds Q ks ops l S (G' x))(hq:bD Tryz.prog S G ⟨none,op,ty,pos,af,none⟩ X V G':=by exact La):LD Tryz.prog n ds Q ks ops (⟨none,op,ty,pos,af,none⟩::l) S G:=Nb hq h
theorem zS{φ:X->Prop}(hq:bD Tryz.prog S G ⟨some d,op,ty,pos,af,none⟩ X V (λ x w=>φ x/\G' x w))(h:∀x,φ x->LD Tryz.prog n ds Q ks ops l ((d,V x)::S) (G' x))(hd:Nat.blt d n=true:=by exact rfl):LD Tryz.prog n ds Q ks ops (⟨some d,op,ty,pos,af,none⟩::l) S G:=D8 hq hd λ x=>qi (h x)
theorem Kg(hq:bD Tryz.prog S G ⟨none,op,ty,pos,af,none⟩ X V G')(h:∀x,LD Tryz.prog n ds Q ks ops l S (G' x)):LD Tryz.prog n ds Q ks ops (⟨none,op,ty,pos,af,none⟩::l) S G:=Nb hq h
theorem uY(h:LD Tryz.prog n ds Q ks ops (⟨some d,op,ty,pos,af,none⟩::l) S G)(hj:(ops[j]?).bind (·.dst)=some g:=by exact rfl)(hg:Ct.look S g=.bool want:=by exact rfl):LD Tryz.prog n ds Q ks ops (⟨some d,op,ty,pos,af,some (j,want)⟩::l) S G:=Wf hj hg h
end

/- Tasks: codes. -/
end Go.Proofs.YtbajmaoegmbfgaaGreat
namespace Go.Ct
section
open Go Go.RowKit
abbrev Clo:=Option (FuncId×List Value)
abbrev fnV:Clo->Value
 | none=>.nilFunc
 | some p=>.func (.func p.1) #[] ⟨p.2⟩
structure Cd where
 a:Ac
 f:Clo
 g:Clo
 r:Rs
abbrev Cd.cells(c:Cd):List Value:=[.int .i64 c.a.k,.int .i64 c.a.c,.int .i64 c.a.o,.int .i64 c.a.n,fnV c.f,fnV c.g,.int .i64 c.r.err,.bool c.r.found,.int .u64 c.r.val,.string c.r.key,.int .i64 c.r.fT,.int .i64 c.r.ref,.int .i64 c.r.root,.bool c.r.ro]
abbrev A4(r:Rs):Cd:=⟨⟨0,0,0,0⟩,none,none,r⟩
abbrev qP(c:Int)(f:FuncId)(cap:List Value):Cd:=⟨⟨1,c,0,0⟩,some (f,cap),none,⟨0,false,0,⟨#[]⟩,0,0,0,false⟩⟩
abbrev tR(c o n:Int)(g:FuncId)(cap:List Value):Cd:=⟨⟨2,c,o,n⟩,none,some (g,cap),⟨0,false,0,⟨#[]⟩,0,0,0,false⟩⟩
theorem dA(c:Cd):c.cells.all (·.oneCell')=true:=by
 obtain⟨a,f,g,r⟩:=c
 cases f<;>cases g<;>rfl
def Q5(cs:List Int)(c o:Int):Bool:=decide (1<=c/\c<=(cs.length:Int)/\cs.getD (c-1).toNat 0=o)
theorem Uh{cs:List Int}{c o:Int}{r:Bool}(h:r=true↔fW cs c o):r=Q5 cs c o:=by
 rw[Bool.eq_iff_iff,h]
 unfold Q5 fW
 rw[decide_eq_true_eq]
end
end Go.Ct
namespace Go.Proofs.YtbajmaoegmbfgaaGreat
section
open Go.RowKit Go.Ct
theorem q8(r:Rs)(w:World):Calls Tryz.prog 77 #[.agg ⟨r.cells⟩] w λ e w'=>e=.returned (.agg ⟨(A4 r).cells⟩)/\St w [] [] w':=by
 refine enter Tryz.func77 Tryz.ntmps77 rfl rfl (SF.s0 w) ?_
 simp only[cD]
 refine J0 ?_;refine bO (λ x1=>?_);refine aJ (λ x2=>?_);refine aG ?_;refine oI ?_;refine uU ?_
 refine bA Tryz.results77 (λ w hw=>?_)
 exact⟨rfl,hw.done⟩
theorem sZ(c:Int)(f:FuncId)(cap:List Value)(w:World):Calls Tryz.prog 130 #[.int .i64 c,.func (.func f) #[] ⟨cap⟩] w λ e w'=>e=.returned (.agg ⟨(qP c f cap).cells⟩)/\St w [] [] w':=by
 refine enter Tryz.func130 Tryz.ntmps130 rfl rfl (SF.s0 w) ?_
 simp only[cD]
 refine J0 ?_;refine aJ (λ x4=>?_);refine aG ?_;refine J2 ?_;refine bM ?_;refine aA ?_;refine uU ?_
 refine bA Tryz.results130 (λ w hw=>?_)
 exact⟨rfl,hw.done⟩
theorem sX(c o n:Int)(f:FuncId)(cap:List Value)(w:World):Calls Tryz.prog 119 #[.int .i64 c,.int .i64 o,.int .i64 n,.func (.func f) #[] ⟨cap⟩] w λ e w'=>e=.returned (.agg ⟨(tR c o n f cap).cells⟩)/\St w [] [] w':=by
 refine enter Tryz.func119 Tryz.ntmps119 rfl rfl (SF.s0 w) ?_
 simp only[cD]
 refine J0 ?_;refine aJ (λ x8=>?_);refine aG ?_;refine Kb5 ?_;refine bM ?_;refine aA ?_;refine uU ?_
 refine bA Tryz.results119 (λ w hw=>?_)
 exact⟨rfl,hw.done⟩
end

/- Tasks: calls through the store, of function values; what is deferred does nothing. -/
section
open Go Go.RowKit Go.Ct
theorem gu(p:Option Addr)(a:Value)(w:World):(callMethod (.iface 42 (.pointer p)) "Load" #[a]).run Tryz.prog w=.ok (.enter 35 #[.pointer p,a]) w:=by kernel_rfl
theorem m4(p:Option Addr)(a b c:Value)(w:World):(callMethod (.iface 42 (.pointer p)) "CAS" #[a,b,c]).run Tryz.prog w=.ok (.enter 279 #[.pointer p,a,b,c]) w:=by kernel_rfl
theorem Cy(p:Option Addr)(w:World):(binOp .neq 123 (.iface 42 (.pointer p)) .nilIface).run Tryz.prog w=.ok (.bool true) w:=by kernel_rfl
theorem aAw(f:Fn)(a b:Array Value)(w:World):(binOp .eql 135 (.func f a b) .nilFunc).run Tryz.prog w=.ok (.bool false) w:=by kernel_rfl
theorem aAk(f:Fn)(a b:Array Value)(w:World):(binOp .eql 129 (.func f a b) .nilFunc).run Tryz.prog w=.ok (.bool false) w:=by kernel_rfl
theorem z9(f:Fn)(a b:Array Value)(w:World):(binOp .eql 130 (.func f a b) .nilFunc).run Tryz.prog w=.ok (.bool false) w:=by kernel_rfl
theorem Rm(p:Option Addr):Idle Tryz.prog 161 #[.pointer p]:=λ w=>by
 refine callsD_of_wpS Tryz.func161 rfl λ c₀ cs hu=>?_
 apply wpS_seq
 apply wpS_region
 simp[wpOpsS,go_sem,recoverD,hu,Tryz.ntmps161,Exit.thenS]
 refine wpS_cond (t:=false) (by simp[Act.eval,Array.replicate]) ?_
 simp only[Bool.false_eq_true,if_false]
 refine wpS_of_wp (wp_skip ?_)
 cases c₀
 simp_all[bodyPostS,results,Tryz.results161]
theorem xV(p:Option Addr):Idle Tryz.prog 129 #[.pointer p]:=λ w=>by
 refine callsD_of_wpS Tryz.func129 rfl λ c₀ cs hu=>?_
 apply wpS_seq
 apply wpS_region
 simp[wpOpsS,go_sem,recoverD,hu,Tryz.ntmps129,Exit.thenS]
 refine wpS_cond (t:=false) (by simp[Act.eval,Array.replicate]) ?_
 simp only[Bool.false_eq_true,if_false]
 refine wpS_of_wp (wp_skip ?_)
 cases c₀
 simp_all[bodyPostS,results,Tryz.results129]
section
variable{S:List (Nat×Value)}{w0 w:World}{M:List Nat}{H:List (Nat×Obj)}{A F:Fr}{O:List Ow}{ty:TypeId}{pos:String}{af:Array Edge}{gd:Option (Nat×Bool)}{X:Type}{V:X->Value}
end
end

/- Tasks: calls of function values that change known blocks. -/
section
open Go Go.RowKit Go.Ct
section
variable{S:List (Nat×Value)}{w0 w:World}{M:List Nat}{H:List (Nat×Obj)}{A F:Fr}{O:List Ow}{ty:TypeId}{pos:String}{af:Array Edge}{gd:Option (Nat×Bool)}{X:Type}{V:X->Value}
end
end

/- Codes with a store: what they mean as trees. -/
end Go.Proofs.YtbajmaoegmbfgaaGreat
namespace Go.Ct
section
open Go Go.RowKit
structure AS where
 L:List aU
 cs:List Int
 gen:Int
 acc:Int
 pn:Option Addr
 cn:Nat
 pc:Option Addr
 cc:Nat
def AS.mm(a:AS):Mm:=⟨(dJ a.L).map aU.c,a.cs,a.gen⟩
structure Xy(s:Mm):Prop where
 nd:∀v∈s.nodes,lJ s.nodes.length s.cs.length v
 cs:∀v∈s.cs,v<=s.nodes.length
 two:2<=s.nodes.length
structure AS.Ok(a:AS):Prop where
 fit:Fits a.L
 mo:Xy a.mm
structure Mm.Le(s s1:Mm):Prop where
 nodes:∃N,s1.nodes=s.nodes++N
 cl:s.cs.length<=s1.cs.length
def Mm.Small(s:Mm):Prop:=s.nodes.length<=137438953472/\s.cs.length<=137438953472
structure AS.iF(a a':AS)(F:Fr):Prop where
 le:a.mm.Le a'.mm
 fam:∀f∈aL a'.L,f.2=[]∨f∈aL a.L∨f∈F
theorem Mm.Le.refl(s:Mm):s.Le s:=⟨⟨[],by simp⟩,Nat.le_refl _⟩
theorem Mm.Le.trans{s t u:Mm}(h:s.Le t)(h2:t.Le u):s.Le u:=by
 obtain⟨⟨N,e⟩,c⟩:=h
 obtain⟨⟨M,e2⟩,c2⟩:=h2
 exact⟨⟨N++M,by rw[e2,e,List.append_assoc]⟩,Nat.le_trans c c2⟩
theorem Mm.Le.len{s t:Mm}(h:s.Le t):s.nodes.length<=t.nodes.length:=by obtain⟨N,e⟩:=h.nodes;rw[e,List.length_append];omega
theorem Mm.Le.nd{s t:Mm}(h:s.Le t){r:Int}(hr:r<=s.nodes.length):bF t.nodes r=bF s.nodes r:=by obtain⟨N,e⟩:=h.nodes;rw[e];exact sC hr
theorem AS.iF.refl(a:AS):a.iF a []:=⟨Mm.Le.refl _,λ f hf=>.inr (.inl hf)⟩
theorem AS.iF.more{a a':AS}{F F':Fr}(h:a.iF a' F)(hs:∀f∈F,f∈F'):a.iF a' F':=⟨h.le,λ f hf=>(h.fam f hf).imp_right λ h=>h.imp_right λ h=>hs f h⟩
theorem AS.iF.trans{a b c:AS}{F G:Fr}(h:a.iF b F)(h2:b.iF c G):a.iF c (G++F):=⟨h.le.trans h2.le,λ f hf=>by
 rcases h2.fam f hf with h1|h1|h1
 ·exact .inl h1
 ·rcases h.fam f h1 with h1|h1|h1
  ·exact .inl h1
  ·exact .inr (.inl h1)
  ·exact .inr (.inr (List.mem_append_right _ h1))
 ·exact .inr (.inr (List.mem_append_left _ h1))⟩
theorem Xy.at{s:Mm}(h:Xy s)(r:Int):lJ s.nodes.length s.cs.length (bF s.nodes r):=by
 unfold bF
 split
 ·refine h.nd _ ?_
  rw[jK,List.getElem?_eq_getElem (by omega)]
  exact List.getElem_mem _
 ·exact Oj _ _
theorem Xy.cell{s:Mm}(h:Xy s)(c:Int):aQ s.cs c<=s.nodes.length:=by
 unfold aQ
 split
 ·exact lX h.cs _
 ·exact bH _
theorem Xy.iS{s:Mm}(h:Xy s){c o n:Int}(hn:n<=s.nodes.length):Xy ⟨s.nodes,dZ s.cs c o n,s.gen⟩:=by
 refine⟨λ v hv=>by simp only[eI];exact h.nd v hv,λ v hv=>?_,h.two⟩
 simp only[dZ] at hv
 split at hv
 ·rcases List.mem_or_eq_of_mem_set hv with hv|rfl
  ·exact h.cs v hv
  ·exact hn
 ·exact h.cs v hv
def jH:Tr->Mm->Tr×Mm
 | .alloc n i k,s=>jH (k ((s.nodes.length+1:Nat):Int)) (s.push n i)
 | .cell i k,s=>jH (k ((s.cs.length+1:Nat):Int)) ⟨s.nodes,s.cs++[i],s.gen⟩
 | .gen k,s=>jH (k (s.gen+1)) ⟨s.nodes,s.cs,s.gen+1⟩
 | .node r k,s=>jH (k (bF s.nodes r)) s
 | t,s=>(t,s)
def nxT:Tr->Mm->Tr×Mm
 | .load c k,s=>(k (aQ s.cs c),s)
 | .iS c o n k,s=>(k (Q5 s.cs c o),⟨s.nodes,dZ s.cs c o n,s.gen⟩)
 | t,s=>(t,s)
def Cn(p:Tr×Mm):Tr×Mm:=jH (nxT p.1 p.2).1 (nxT p.1 p.2).2
def Tr.live:Tr->Bool
 | .done _=>false
 | _=>true
def nE(p:Tr×Mm):Nat->Tr×Mm
 | 0=>p
 | k+1=>Cn (nE p k)
end
end Go.Ct
namespace Go.Proofs.YtbajmaoegmbfgaaGreat
section
open Go Go.RowKit Go.Ct
abbrev eS(a:AS):Obj:=aO a.L a.cs a.gen a.acc a.pn a.cn a.pc a.cc
abbrev eX(a:AS):List Ow:=mW a.L a.cs a.pn a.cn a.pc a.cc
def Bf(b:Nat)(R:Cd->Mm->Fr->Prop)(a:AS)(B:Fr)(D:List Nat)(w:World):Ending->World->Prop:=λ e w'=>∃y:Cd×Fr×AS,e=.returned (.agg ⟨y.1.cells⟩)/\(R y.1 y.2.2.mm (y.2.1++B)/\y.2.2.Ok/\a.iF y.2.2 y.2.1)/\SF w D [(b,eS y.2.2)] [] y.2.1 (eX y.2.2) w'
def Ad(b:Nat)(f:FuncId)(cap:List Value)(arg:List Value)(B:Fr)(s:Mm)(R:Cd->Mm->Fr->Prop):Prop :=
 ∀(a:AS) (D:List Nat) (A:Fr) (w:World),a.mm=s->a.Ok->s.Small->(∀f∈aL a.L,f∈A)->(∀f∈B,f∈A)->SF w D [(b,eS a)] A [] (eX a) w->Calls Tryz.prog f ⟨arg++cap⟩ w (Bf b R a B D w)
def kR(b:Nat):Tr->Mm->Cd->Mm->Fr->Prop
 | .done r,s,c,s2,_=>s2=s/\c=A4 r
 | .load x k,s,c,s2,B=>s2=s/\x<=9223372036854775807/\∃f cap,c=qP x f cap/\plain Tryz.prog f=true/\∀(v:Int) (s1:Mm),s.Le s1->v<=s1.nodes.length->Ad b f cap [.int .i64 v] B s1 λ c' s' B'=>kR b (k v) s1 c' s' B'
 | .iS x o n k,s,c,s2,B=>s2=s/\x<=9223372036854775807/\n<=s.nodes.length/\∃f cap,c=tR x o n f cap/\plain Tryz.prog f=true/\∀(v:Bool) (s1:Mm),s.Le s1->Ad b f cap [.bool v] B s1 λ c' s' B'=>kR b (k v) s1 c' s' B'
 | .alloc n i k,s,c,s2,B=>kR b (k ((s.nodes.length+1:Nat):Int)) (s.push n i) c s2 B
 | .cell i k,s,c,s2,B=>kR b (k ((s.cs.length+1:Nat):Int)) ⟨s.nodes,s.cs++[i],s.gen⟩ c s2 B
 | .gen k,s,c,s2,B=>kR b (k (s.gen+1)) ⟨s.nodes,s.cs,s.gen+1⟩ c s2 B
 | .node r k,s,c,s2,B=>r<=s.nodes.length/\kR b (k (bF s.nodes r)) s c s2 B
 | .stuck,_,_,_,_=>True
def Dt(b:Nat)(K:Int->Tr)(s:Mm)(f:FuncId)(cap:List Value)(B:Fr):Prop:=plain Tryz.prog f=true/\∀(v:Int) (s1:Mm),s.Le s1->v<=s1.nodes.length->Ad b f cap [.int .i64 v] B s1 λ c' s' B'=>kR b (K v) s1 c' s' B'
def Rk(b:Nat)(K:Bool->Tr)(s:Mm)(f:FuncId)(cap:List Value)(B:Fr):Prop:=plain Tryz.prog f=true/\∀(v:Bool) (s1:Mm),s.Le s1->Ad b f cap [.bool v] B s1 λ c' s' B'=>kR b (K v) s1 c' s' B'
def Wc(b:Nat)(t:Tr)(s:Mm)(f:FuncId)(cap:List Value)(B:Fr):Prop:=plain Tryz.prog f=true/\∀s1:Mm,s.Le s1->Ad b f cap [] B s1 λ c' s' B'=>kR b t s1 c' s' B'
section
variable{b:Nat}{f:FuncId}{cap arg:List Value}{B B2:Fr}{s s1 s2:Mm}{t:Tr}{c:Cd}
theorem Ad.more{R R2:Cd->Mm->Fr->Prop}(h:Ad b f cap arg B s R)(hb:∀x∈B,x∈B2)(hR:∀c m C C2,(∀x∈C,x∈C2)->R c m C->R2 c m C2):Ad b f cap arg B2 s R2:=λ a D A w e1 ok hs h1 h2 hw =>
 (h a D A w e1 ok hs h1 (λ x hx=>h2 x (hb x hx)) hw).mono λ e w' ⟨y,he,⟨hr,h3⟩,hs⟩=>⟨y,he,⟨hR _ _ _ _ (λ x hx=>by
  rcases List.mem_append.1 hx with h1|h1
  ·exact List.mem_append_left _ h1
  ·exact List.mem_append_right _ (hb x h1)) hr,h3⟩,hs⟩
theorem kR.more:∀{t:Tr} {s s2:Mm} {c:Cd} {B B2:Fr},kR b t s c s2 B->(∀x∈B,x∈B2)->kR b t s c s2 B2
 | .done _,_,_,_,_,_,h,_=>h
 | .load _ k,_,_,_,_,_,⟨h0,h1,f,cap,h2,h3,h4⟩,hb=>⟨h0,h1,f,cap,h2,h3,λ v s1 l hv=>(h4 v s1 l hv).more hb λ _ _ _ _ hC h=>kR.more (t:=k v) h hC⟩
 | .iS _ _ _ k,_,_,_,_,_,⟨h0,h1,hn,f,cap,h2,h3,h4⟩,hb=>⟨h0,h1,hn,f,cap,h2,h3,λ v s1 l=>(h4 v s1 l).more hb λ _ _ _ _ hC h=>kR.more (t:=k v) h hC⟩
 | .alloc n i k,s,_,_,_,_,h,hb=>kR.more (t:=k ((s.nodes.length+1:Nat):Int)) h hb
 | .cell i k,s,_,_,_,_,h,hb=>kR.more (t:=k ((s.cs.length+1:Nat):Int)) h hb
 | .gen k,s,_,_,_,_,h,hb=>kR.more (t:=k (s.gen+1)) h hb
 | .node r k,s,_,_,_,_,h,hb=>⟨h.1,kR.more (t:=k (bF s.nodes r)) h.2 hb⟩
 | .stuck,_,_,_,_,_,_,_=>trivial
theorem Dt.more{K:Int->Tr}(h:Dt b K s f cap B)(hb:∀x∈B,x∈B2):Dt b K s f cap B2:=⟨h.1,λ v s1 l hv=>(h.2 v s1 l hv).more hb λ _ _ _ _ hC h=>kR.more h hC⟩
theorem Rk.more{K:Bool->Tr}(h:Rk b K s f cap B)(hb:∀x∈B,x∈B2):Rk b K s f cap B2:=⟨h.1,λ v s1 l=>(h.2 v s1 l).more hb λ _ _ _ _ hC h=>kR.more h hC⟩
theorem Wc.more(h:Wc b t s f cap B)(hb:∀x∈B,x∈B2):Wc b t s f cap B2:=⟨h.1,λ s1 l=>(h.2 s1 l).more hb λ _ _ _ _ hC h=>kR.more h hC⟩
theorem Dt.le{K:Int->Tr}(h:Dt b K s f cap B)(l:s.Le s1):Dt b K s1 f cap B:=⟨h.1,λ v s2 l2 hv=>h.2 v s2 (l.trans l2) hv⟩
theorem Rk.le{K:Bool->Tr}(h:Rk b K s f cap B)(l:s.Le s1):Rk b K s1 f cap B:=⟨h.1,λ v s2 l2=>h.2 v s2 (l.trans l2)⟩
theorem Wc.le(h:Wc b t s f cap B)(l:s.Le s1):Wc b t s1 f cap B:=⟨h.1,λ s2 l2=>h.2 s2 (l.trans l2)⟩
theorem kR.kind(h:kR b t s c s2 B)(ha:dL t=true):(c.a.k=0↔t.live=false)/\(∀r,t=.done r->c.r=r)/\(∀x,t.acc=some x->c.a=x):=by
 cases t with
 | done r=>rw[h.2];exact⟨⟨λ _=>rfl,λ _=>rfl⟩,(λ r e=>by cases e;rfl),(λ x e=>nomatch e)⟩
 | load x k =>
  obtain⟨_,_,f,cap,e,_⟩:=h
  rw[e]
  exact⟨⟨λ h=>absurd h (show(1:Int)≠0 by decide),(λ h=>nomatch h)⟩,(λ r e=>nomatch e),λ x e=>by cases e;rfl⟩
 | iS x o n k =>
  obtain⟨_,_,_,f,cap,e,_⟩:=h
  rw[e]
  exact⟨⟨λ h=>absurd h (show(2:Int)≠0 by decide),(λ h=>nomatch h)⟩,(λ r e=>nomatch e),λ x e=>by cases e;rfl⟩
 | alloc n i k=>cases ha
 | cell i k=>cases ha
 | gen k=>cases ha
 | node r k=>cases ha
 | stuck=>cases ha
theorem kR.jH:∀{t:Tr} {s s2:Mm} {c:Cd} {n m:Nat},bR t n m->kR b t s c s2 B->(jH t s).2=s2/\dL (jH t s).1=true/\kR b (jH t s).1 s2 c s2 B
 | .done _,_,_,_,_,_,_,h=>by obtain⟨rfl,h2⟩:=h;exact⟨rfl,rfl,rfl,h2⟩
 | .load _ k,_,_,_,_,_,_,h=>by obtain⟨rfl,h2⟩:=h;exact⟨rfl,rfl,rfl,h2⟩
 | .iS _ _ _ k,_,_,_,_,_,_,h=>by obtain⟨rfl,h2⟩:=h;exact⟨rfl,rfl,rfl,h2⟩
 | .alloc n i k,s,_,_,_,0,ht,h=>ht.elim
 | .alloc n i k,s,_,_,_,_+1,ht,h=>kR.jH (t:=k ((s.nodes.length+1:Nat):Int)) (ht _) h
 | .cell i k,s,_,_,_,0,ht,h=>ht.elim
 | .cell i k,s,_,_,_,_+1,ht,h=>kR.jH (t:=k ((s.cs.length+1:Nat):Int)) (ht _) h
 | .gen k,s,_,_,_,0,ht,h=>ht.elim
 | .gen k,s,_,_,_,_+1,ht,h=>kR.jH (t:=k (s.gen+1)) (ht _) h
 | .node r k,s,_,_,_,_,ht,h=>kR.jH (t:=k (bF s.nodes r)) (ht _) h.2
 | .stuck,_,_,_,_,_,ht,_=>ht.elim
end
section
variable{S:List (Nat×Value)}{w0 w:World}{M:List Nat}{H:List (Nat×Obj)}{A F:Fr}{O:List Ow}{ty:TypeId}{pos:String}{af:Array Edge}{gd:Option (Nat×Bool)}{X:Type}{V:X->Value}
theorem cMf{φ:X->Prop}{hs H':List (Nat×Obj)}{os O':List Ow}{hs' H1:X->List (Nat×Obj)}{os' O1:X->List Ow}{Fc F1:X->Fr}{A0:Fr}{is js:List Nat}{f:FuncId}{cap:List Value}{xs:List Operand}{at_:Array TypeId}{vs:List Value}{dst:Option Nat}{x:Operand}
  (hx:ev S x=.func (.func f) #[] ⟨cap⟩:=by exact rfl) (ha:qU S xs=vs:=by(repeat (first|exact cP _|(apply cC;focus ((conv=>{lhs;whnf});try exact rfl))));first|done|fail) (hp:plain Tryz.prog f=true)
  (hc:∀w,SF w (Ks hs os) hs A0 [] os w->Calls Tryz.prog f ⟨vs++cap⟩ w λ e w'=>∃x,e=.returned (V x)/\φ x/\SF w (Ks hs os) (hs' x) [] (Fc x) (os' x) w')
  (hH:mY H is hs H':=by(repeat (first|exact mY.nil|(apply mY.cons;(focus ((repeat (first|exact Az.head|apply Az.tail));done));simp only[rW])));first|done|fail)
  (hO:mY O js os O':=by(repeat (first|exact mY.nil|(apply mY.cons;(focus ((repeat (first|exact Az.head|apply Az.tail));done));simp only[rW])));first|done|fail)
  (hA:bJ A F O' A0:=by exact bJ.of (λ _ h=>Or.inr (Or.inl h)))
  (hl1:∀x,is.length=(hs' x).length:=by intro x;exact rfl) (hl2:∀x,js.length=(os' x).length:=by intro x;exact rfl)
  (hH1:∀x,jJ is (hs' x) H'=H1 x:=by intro x;first|(simp only[jJ,tL];exact rfl)|exact rfl) (hF1:∀x,Fc x++F=F1 x:=by intro x;first|(simp only[List.nil_append,List.cons_append];exact rfl)|exact rfl) (hO1:∀x,jJ js (os' x) O'=O1 x:=by intro x;simp only[jJ,tL,mW];exact rfl) :
  bD Tryz.prog S (SF w0 M H A F O) ⟨dst,.call {callee:=.value x,args:=⟨xs⟩,argTypes:=at_},ty,pos,af,gd⟩ X V (λ x w=>φ x/\SF w0 M (H1 x) A (F1 x) (O1 x) w) :=
 iE (n9 hx hp ha) λ w hw=>(hc w (hw.rL hH hO hA)).mono λ _ _ ⟨x,he,hx,hs⟩=>⟨x,he,hx,by
  have:=hw.zY (hs':=hs' x) (Hc:=[]) (os':=os' x) (Oc:=[]) hH hO (by simpa using hs) (hl1 x) (hl2 x)
  rw[<- hH1 x,<- hF1 x,<- hO1 x]
  simpa using this⟩
end
end

/- Tasks: Done, Next, Result, Steps. -/
end Go.Proofs.YtbajmaoegmbfgaaGreat
namespace Go.Ct
section
open Go Go.RowKit
theorem SF.same{w w':World}{b:Nat}{o:Obj}(h:SF w [b] [(b,o)] [] [] [] w')(hb:w.heap[b]?=some o):St w [] [] w' :=
 ⟨h.st.os,h.st.tape,h.st.output,h.st.size,λ k hk _=>by
  by_cases e:k=b
  ·subst e;rw[h.st.has (k,o) (List.mem_singleton.2 rfl),hb]
  ·exact h.st.kA k hk (by simpa using e),λ _ h=>(List.not_mem_nil h).elim,λ _ h=>(List.not_mem_nil h).elim,List.nodup_nil⟩
theorem SF.tw{w:World}{b:Nat}{o:Obj}(hb:w.heap[b]?=some o):SF w [b] [(b,o)] [] [] [] w :=
 ⟨⟨rfl,rfl,rfl,Nat.le_refl _,λ _ _ _=>rfl,λ p hp=>by rw[List.mem_singleton.1 hp];exact hb,λ p hp=>by rw[List.mem_singleton.1 hp];exact .inl (List.mem_singleton.2 rfl),by simp⟩,λ _ h=>(List.not_mem_nil h).elim,λ _ h=>(List.not_mem_nil h).elim,λ _ h=>(List.not_mem_nil h).elim,by simp[Ks]⟩
end
end Go.Ct
namespace Go.Proofs.YtbajmaoegmbfgaaGreat
section
open Go Go.RowKit Go.Ct
abbrev tkC(b:Nat)(c:Cd)(n:Nat)(z:Bool):List Value:=[.iface 42 (.pointer (some ⟨b,0,none⟩)),.int .i64 c.a.k,.int .i64 c.a.c,.int .i64 c.a.o,.int .i64 c.a.n,fnV c.f,fnV c.g,.int .i64 c.r.err,.bool c.r.found,.int .u64 c.r.val,.string c.r.key,.int .i64 c.r.fT,.int .i64 c.r.ref,.int .i64 c.r.root,.bool c.r.ro,.int .i64 ((n:Nat):Int),.bool z]
abbrev tO(b:Nat)(c:Cd)(n:Nat):Obj:=.cells ⟨tkC b c n false⟩ 141 (0,0)
section
variable{D:List Nat}{A B:Fr}{L:List aU}{cs:List Int}{gen acc:Int}{pn pc:Option Addr}{cn cc b bt n:Nat}{w:World}{c:Cd}
theorem Aj(h:w.heap[bt]?=some (tO b c n)):Calls Tryz.prog 33 #[.pointer (some ⟨bt,0,none⟩)] w λ e w'=>e=.returned (.bool (c.a.k==0))/\St w [] [] w':=by
 refine enter Tryz.func33 Tryz.ntmps33 rfl rfl (SF.tw h) ?_
 simp only[cD]
 refine cU ?_;refine Hw ?_;refine aE ?_;refine J3 ?_;refine Qc ?_
 refine aN Tryz.results33 (λ w hw=>?_)
 exact⟨rfl,hw.aW.same h⟩
theorem Sx(h:w.heap[bt]?=some (tO b c n)):Calls Tryz.prog 34 #[.pointer (some ⟨bt,0,none⟩)] w λ e w'=>e=.returned (.agg ⟨(if c.a.k=0 then c.r else Rs.zero).cells⟩)/\St w [] [] w':=by
 refine enter Tryz.func34 Tryz.ntmps34 rfl rfl (SF.tw h) ?_
 simp only[cD]
 refine J0 ?_;refine aJ (λ x2=>?_);refine aG ?_;refine mD ?_;refine aM (cV (hc:=λ w1 hw=>Aj (hw.st.at cX))) (λ x4=>?_);refine pD ?_
 refine bC (λ c5=>?_) (λ c5=>?_)
 ·refine Kb7 ?_
  refine bA Tryz.results34 (λ w hw=>?_)
  refine⟨?_,hw.aW.same h⟩
  rw[if_neg (by simpa using c5)]
  rfl
 ·refine aV ?_;refine Hw ?_;refine aE ?_;refine aB (aP (k:=8) (vs:=c.r.cells) rf cX eH rfl rfl) rfl ?_;refine J5 ?_
  refine bA Tryz.results34 (λ w hw=>?_)
  refine⟨?_,hw.aW.same h⟩
  rw[if_pos (by simpa using c5)]
  rfl
end
end

end Go.Proofs.YtbajmaoegmbfgaaGreat
