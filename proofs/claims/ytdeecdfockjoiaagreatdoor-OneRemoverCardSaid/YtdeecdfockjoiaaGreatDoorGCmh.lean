/- Merged. -/
import Derived.Test.YtdeecdfockjoiaaGreatDoorGBr4
import Derived.Test.YtdeecdfockjoiaaGreatDoorGGc4
import Derived.Test.YtdeecdfockjoiaaGreatDoorGRt2
import Derived.Test.YtdeecdfockjoiaaGreatDoorGDu2
set_option linter.unusedSimpArgs false
set_option linter.unusedVariables false
namespace Go.Proofs.YtdeecdfockjoiaaGreatDoor
open Go.Proofs.Tryz
open Go Go.RowKit Go.Ct
section
section
variable{S:List (Nat×Value)}{w0 w:World}{M:List Nat}{H:List (Nat×Obj)}{A F:Fr}{O:List Ow}{ty:TypeId}{pos:String}{af:Array Edge}{gd:Option (Nat×Bool)}{X:Type}{V:X->Value}
theorem Og{φ:X->Prop}{hs H':List (Nat×Obj)}{os O':List Ow}{hs' Hc H1:X->List (Nat×Obj)}{os' Oc O1:X->List Ow}{Fc F1:X->Fr}{A0:Fr}{is js:List Nat}{f:FuncId}{xs:List Operand}{at_:Array TypeId}{vs:List Value}{dst:Option Nat}
  (ha:nZ S xs=vs:=by(repeat (first|exact cB _|(apply bK;focus ((conv=>{lhs;whnf});try exact rfl))));first|done|fail) (hp:plain prog f=true:=by kernel_rfl)
  (hc:∀w,SF w (Ks hs os) hs A0 [] os w->Calls prog f ⟨vs⟩ w λ e w'=>∃x,e=.returned (V x)/\φ x/\SF w (Ks hs os) (hs' x++Hc x) [] (Fc x) (os' x++Oc x) w')
  (hH:nW H is hs H':=by(repeat (first|exact nW.nil|(apply nW.cons;(focus ((repeat (first|exact Cf.head|apply Cf.tail));done));simp only[rW])));first|done|fail)
  (hO:nW O js os O':=by(repeat (first|exact nW.nil|(apply nW.cons;(focus ((repeat (first|exact Cf.head|apply Cf.tail));done));simp only[rW])));first|done|fail)
  (hA:bV A F O' A0:=by(repeat (first|exact bV.of (λ _ h=>Or.inr (Or.inl h))|exact bV.nil|(refine bV.cons (by first|exact Or.inl rfl|exact Or.inr (Or.inr (Or.inl (by simp)))|exact Or.inr (Or.inl (by simp))|exact Or.inr (Or.inr (Or.inr (by simp)))) ?_)));first|done|fail)
  (hl1:∀x,is.length=(hs' x).length:=by intro x;exact rfl) (hl2:∀x,js.length=(os' x).length:=by intro x;exact rfl)
  (hH1:∀x,Hc x++kS is (hs' x) H'=H1 x:=by intro x;first|(simp only[kS,sX,List.nil_append,List.cons_append];exact rfl)|exact rfl) (hF1:∀x,Fc x++F=F1 x:=by intro x;first|(simp only[List.nil_append,List.cons_append];exact rfl)|exact rfl) (hO1:∀x,Oc x++kS js (os' x) O'=O1 x:=by intro x;simp only[kS,sX,mW,List.nil_append,List.cons_append];exact rfl) :
  aW prog S (SF w0 M H A F O) ⟨dst,.call {callee:=.value (.func f),args:=⟨xs⟩,argTypes:=at_},ty,pos,af,gd⟩ X V (λ x w=>φ x/\SF w0 M (H1 x) A (F1 x) (O1 x) w) :=
 iJ (nA hp ha) λ w hw=>(hc w (hw.sD hH hO hA)).mono λ _ _ ⟨x,he,hx,hs⟩=>⟨x,he,hx,by have:=hw.Ao (hs':=hs' x) (Hc:=Hc x) (os':=os' x) (Oc:=Oc x) hH hO hs (hl1 x) (hl2 x);rw[<- hH1 x,<- hF1 x,<- hO1 x];exact this⟩
end
end
section
theorem qL.w6{b:Nat}{p:Tr×Mm}{a:AS}{B B1 F:Fr}{c:Cd}{a':AS}(h:qL b p a (B1++B) (c,F,a')):qL b p a B (c,F++B1,a'):=by obtain⟨⟨h1,h2⟩,h3,h4⟩:=h;refine⟨⟨?_,h2⟩,h3,h4.more λ f hf=>List.mem_append_left _ hf⟩;simp only at h1 ⊢;rw[List.append_assoc];exact h1
section
variable{D:List Nat}{A B:Fr}{a:AS}{b:Nat}{w:World}{f:FuncId}{cap:List Value}{t:oB}
theorem Da{t:Tr}{cap:List Value}(hns:Ns t a.mm)(h:Yq b t a.mm f cap B)(ok:a.Ok)(hm:a.mm.iL)(hA:∀f∈dD a.L,f∈A)(hB:∀x∈B,x∈A)(hs:SF w D [(b,dV a),(a.u,a.po)] A [] (iS a) w) :
  Calls prog 58 #[.iface 63 (.pointer (some ⟨b,0,none⟩)),.func (.func f) #[] ⟨cap⟩] w λ e w'=>∃x:Nat×Cd×Fr×AS,e=.returned (.pointer (some ⟨x.1,0,none⟩))/\(qL b (Ct.jT t a.mm) a B x.2/\fI (Ct.jT t a.mm).1=true)/\SF w D ([(b,dV x.2.2.2),(x.2.2.2.u,x.2.2.2.po)]++[(x.1,tO b x.2.1 0)]) [] x.2.2.1 (iS x.2.2.2++[]) w' :=
 (jg hns h ok hm hA hB hs).mono λ _ _ ⟨x,e,h,hw⟩=>⟨x,e,h,by rw[List.append_nil];exact hw.perm (List.perm_append_comm (l₁:=[(b,dV x.2.2.2),(x.2.2.2.u,x.2.2.2.po)]) (l₂:=[(x.1,tO b x.2.1 0)])) (List.Perm.refl _)⟩
end
end
section
abbrev erR:Rs:={Rs.zero with err:=1}
noncomputable def dh (t:oB) (h:Nat) (key:ByteArray) (n:Nat):Tr:=if key.size<=64 then B7 t (λ i=>Ej t h key .done n i 0) else .done erR
section
variable{D:List Nat}{A B:Fr}{a:AS}{b:Nat}{w:World}{f:FuncId}{cap:yK}{t:oB}{bf h:Nat}{key:ByteArray}
theorem px(x y z:Option Addr×List Value):∀u∈x::z::([y]++B),u∈[x,y,z]++B:=λ u hu=>by simp only[List.mem_cons,List.mem_append,List.not_mem_nil,or_false] at hu ⊢;rcases hu with h|h|h|h<;>simp[h]
theorem zu{n xf:Nat}{s:Mm}{r:Int}(hd:Sn b bf h t key n)(hn:n<=4294967296)(hr:r<=s.nodes.length)(hbf:bx bf (Jn b t key h)∈B):kF b 97 [pt xf] [.int .i64 r] (bx xf [pt bf]::B) s (Ej t h key .done n r 0):=by intro a D A w em ok hm0 hA hB hw0;subst em;refine K2l ?_;intro hm;refine enter func97 ntmps97 rfl rfl hw0 ?_;simp only[cN];refine J0 ?_;refine aJ (λ x3=>?_);refine Kb4 ?_;refine K3g ?_;refine aB ?_;refine aI (gK (λ w1 hw=>hd a _ A _ r 0 w1 (by omega) (List.mem_cons_of_mem _ hbf) hr ok hm hA hB hw)) (λ x6 h6=>?_);refine aM (cC λ _=>aC rf bI rf (aY _) cY rf dM) (λ _=>?_);refine aE ?_;refine bF results97 (λ w hw=>?_);exact⟨x6,rfl,h6,hw.rN⟩
theorem aBk{n xk xf:Nat}{s:Mm}(ht:t.root<=9223372036854775807)(hd:Sn b bf h t key n)(hn:n<=4294967296)(hbf:bx bf (Jn b t key h)∈B):kF b 95 [pt xk,pt xf] [] (bx xk [.string key]::bx xf [pt bf]::B) s (dh t h key n):=by
 intro a D A w em ok hm0 hA hB hw0;subst em;refine K2l ?_;intro hm;have hfm:bx bf (Jn b t key h)∈bx xk [.string key]::bx xf [pt bf]::B:=List.mem_cons_of_mem _ (List.mem_cons_of_mem _ hbf);have hT:tJ b (λ i=>Ej t h key .done n i 0) a.mm 97 [pt xf] (bx xk [.string key]::bx xf [pt bf]::B):=⟨by kernel_rfl,λ r s1 l hr _=>(zu hd hn hr hbf).mr λ y hy=>List.mem_cons_of_mem _ hy⟩;refine enter func95 ntmps95 rfl rfl hw0 ?_;simp only[cN]
 refine J0 ?_;refine aJ (λ x2=>?_);refine pJ ?_;refine J0 ?_;refine aA (fG xk [.string key] 0 hB rfl) rfl ?_;refine aH (cV (hc:=λ w1 hw=>sA key w1)) (λ x4=>?_);refine pU ?_;refine aX (λ c5=>?_) (λ c5=>?_);·refine Ke0 ?_;refine aH (cV (hc:=λ w1 hw=>oX erR w1)) (λ x7=>?_);refine aM (cC λ _=>aC rf bI rf (aY _) cY rf dM) (λ _=>?_);refine aE ?_;refine bF results95 (λ w hw=>?_);refine⟨(fE erR,[],a),rfl,⟨?_,ok,AS.fF.refl a⟩,hw.rI⟩;dsimp only;unfold dh;rw[if_neg (by simpa using c5)];exact⟨rfl,rfl⟩
 ·refine Kc4 ?_;refine K3g ?_;refine P3 ?_;refine aA (M2 bf (Jn b t key h) 0 3 hB rfl rfl (hm:=hfm)) rfl ?_;refine K2m ?_;refine aI (gK (λ w1 hw=>Ml ht hT ok hm hA hB hw)) (λ x13 h13=>?_);refine aM (cC λ _=>aC rf bI rf (aY _) cY rf dM) (λ _=>?_);refine aE ?_;refine bF results95 (λ w hw=>?_);refine⟨x13,rfl,⟨?_,h13.2⟩,hw.rN⟩;unfold dh;rw[if_pos (by simpa using c5)];exact h13.1
end
end
end Go.Proofs.YtdeecdfockjoiaaGreatDoor
namespace Go.Ct
open Go Go.RowKit
section
theorem jA{P:Program}{S:List (Nat×Value)}{G:World->Prop}{d:Nat}{ty:TypeId}{pos:String}{af:Array Edge}{gd:Option (Nat×Bool)}{fn:Fn}{fs cap:List Operand}{us vs:List Value}(hf:nZ S fs=us)(hc:nZ S cap=vs):aN P S G ⟨some d,.makeFunc fn ⟨fs⟩ ⟨cap⟩,ty,pos,af,gd⟩ (.func fn ⟨us⟩ ⟨vs⟩):=⟨λ w _=>by
 subst hf hc;have hm:(cap.map (ev S)).toArray=⟨nZ S cap⟩:=by rw[tE]
 have hn:(fs.map (ev S)).toArray=⟨nZ S fs⟩:=by rw[tE]
 simp only[execOp,List.map_toArray,hm,hn];rfl⟩
end
end Go.Ct
namespace Go.Proofs.YtdeecdfockjoiaaGreatDoor
open Go.Proofs.Tryz
open Go Go.RowKit Go.Ct
section
abbrev pC(b:Nat)(c:jQ)(g par i l:Int):List Value:=[.iface 63 (.pointer (some ⟨b,0,none⟩)),.int .i64 c.t.root,.bool c.t.ro,.string c.key,.int .u64 (c.h:Int),.int .u64 c.val,.int .i64 c.pol,.int .u64 c.exp,.int .i64 g,.int .i64 par,.int .i64 i,.int .i64 l]
abbrev pO(b:Nat)(c:jQ)(g par i l:Int):Obj:=.cells ⟨pC b c g par i l⟩ 204 (0,0)
theorem eH.yx{b:Nat}:∀{t:Tr} {s s2:Mm} {c:Cd} {B:Fr} (π:Pv),eH b t s c s2 B->eH b t ⟨s.nodes,s.cs,s.gen,π⟩ c s2 B
 | .done _,_,_,_,_,_,h=>h
 | .load _ k,_,_,_,_,_,h=>h
 | .sJ _ _ _ k,_,_,_,_,_,h=>h
 | .alloc n i k,s,_,_,_,π,h=>eH.yx (t:=k ((s.nodes.length+1:Nat):Int)) π h
 | .cell i k,s,_,_,_,π,h=>eH.yx (t:=k ((s.cs.length+1:Nat):Int)) π h
 | .gen k,s,_,_,_,π,h=>eH.yx (t:=k (s.gen+1)) π h
 | .node r k,s,_,_,_,π,h=>⟨h.1,eH.yx (t:=k (aD s.nodes r)) π h.2⟩
 | .stuck,_,_,_,_,_,_=>trivial
section
variable{D:List Nat}{A B:Fr}{a:AS}{b u:Nat}{w:World}{f:FuncId}{cap:yK}{t:oB}{c:jQ}
theorem qV(found:Bool)(v:Int)(w:World):Calls prog 250 #[.bool found,.int .u64 v] w λ e w'=>e=.returned (.agg ⟨(fE (eG found v)).cells⟩)/\St w [] [] w':=by refine enter func250 ntmps250 rfl rfl (SF.s0 w) ?_;simp only[cN];refine K2f ?_;intro x4;refine Ke2 ?_;refine cI ?_;refine aH (cV (hc:=λ w1 hw=>oX (eG found v) w1)) (λ x8=>?_);refine aM (cC λ _=>aC rf bI rf (aY _) cY rf dM) (λ _=>?_);refine aE ?_;refine bF results250 (λ w hw=>?_);exact⟨rfl,hw.done⟩
theorem rC{g par i l:Int}(hb:w.heap[u]?=some (pO b c g par i l))(found:Bool)(v:Int):Calls prog 249 #[pt u,.bool found,.int .u64 v] w λ e w'=>e=.returned (.bool (fQ c found v))/\St w [] [] w':=by
 refine enter func249 ntmps249 rfl rfl (SF.Xn hb) ?_;simp only[cN];refine Uh ?_;refine qQ ?_;refine Kb6 ?_;refine kT ?_;refine aX (λ c11=>?_) (λ c11=>?_);·refine J2 ?_;refine Wh ?_;refine J1 ?_;refine bJ results249 (λ w hw=>?_);refine⟨?_,hw.fS.same hb⟩;unfold fQ;rw[if_pos (by assumption)];rfl
 ·refine kT ?_;refine aX (λ c15=>?_) (λ c15=>?_);·refine Kd6 ?_;refine bJ results249 (λ w hw=>?_);refine⟨?_,hw.fS.same hb⟩;unfold fQ;rw[if_neg (by assumption),if_pos (by assumption)];rfl
  ·refine kT ?_;refine aX (λ c18=>?_) (λ c18=>?_)
   ·refine lV ?_;(refine mN 21 (λ g21=>?_) (λ g21=>?_)<;>refine Ka3 ?_);all_goals (refine Ka3 ?_;(first|refine aZ ?_|(refine aF ?_;refine bN ?_));refine J6 ?_;refine Co ?_;refine J1 ?_)
    all_goals
    refine bJ results249 (λ w hw=>?_);refine⟨?_,hw.fS.same hb⟩;unfold fQ;rw[if_neg (by assumption),if_neg (by assumption),if_pos (by assumption),g21];rfl
   ·refine Ke6 ?_;refine bJ results249 (λ w hw=>?_);refine⟨?_,hw.fS.same hb⟩;unfold fQ;rw[if_neg (by assumption),if_neg (by assumption),if_neg (by assumption)];rfl
theorem Sh(ok:a.Ok)(hm:a.mm.Small)(hs:SF w D [(b,dV a),(a.u,a.po)] A [] (iS a) w) :
  Calls prog 96 #[.agg ⟨gI b t⟩,fn f cap] w (jP b (λ _ _ _=>True) a B D w):=by refine enter func96 ntmps96 rfl rfl hs ?_;simp only[cN];refine K1u ?_;intro x2 x3 x4 x9;refine aM (cC λ _=>aC rf bI rf (aY _) cY rf dM) (λ _=>?_);refine aE ?_;refine bF results96 (λ w hw=>?_);exact⟨(nF t.root _ _,[bx x2 (gI b t),bx x3 [fn f cap]],a),rfl,⟨trivial,ok,(AS.fF.refl a).more (λ _ h=>(List.not_mem_nil h).elim)⟩,((hw.bS (.tail .head)).bS (.tail .head)).rI⟩
end
end
section
abbrev AS.wp(a:AS)(u:Nat)(o:Obj):AS:=⟨a.L,a.cs,a.gen,a.acc,a.pn,a.cn,a.pc,a.cc,u,o,Hv⟩
abbrev AS.wq(a:AS)(u:Nat)(o:Obj)(l:Ow):AS:=⟨a.L,a.cs,a.gen,a.acc,a.pn,a.cn,a.pc,a.cc,u,o,l⟩
theorem uA{a:AS}{u:Nat}{o:Obj}(e:a.pv=((u,o),Hv)):a=AS.wp a u o:=by cases a;cases e;rfl
def U9(b u:Nat)(c:jQ)(T:Tr):Prop:=∀(a:AS) (D:List Nat) (A B:Fr) (w:World) (g par i l:Int),a.pv=((u,pO b c g par i l),Hv)->a.Ok->a.mm.Small->(∀f∈dD a.L,f∈A)->(∀x∈B,x∈A)->SF w D [(b,dV a),(a.u,a.po)] A [] (iS a) w ->
  Calls prog 92 #[pt u] w (jP b (λ c' s' B'=>eH b T a.mm c' s' B') a B D w)
section
variable{D:List Nat}{A B:Fr}{a:AS}{b u:Nat}{w:World}{f:FuncId}{cap:yK}{t:oB}{c:jQ}
theorem vr:U9 b u c .stuck:=by intro a D A B w g par i l e ok hm hA hB hs;obtain⟨a0,rfl⟩:∃a0:AS,a=AS.wp a0 u (pO b c g par i l):=⟨a,uA e⟩;refine enter func92 ntmps92 rfl rfl hs ?_;simp only[cN];refine K1e ?_;intro x2;refine aI (gK (A0:=A) (λ w1 hw=>Sh (B:=B) (f:=130) (cap:=⟨[pt u],[]⟩) ok hm hw)) (λ x9 h9=>?_);refine aM (cC λ _=>aC rf bI rf (aY _) cY rf dM) (λ _=>?_);refine aE ?_;refine bF results92 (λ w hw=>?_);exact⟨x9,rfl,⟨trivial,h9.2⟩,hw.rN⟩
theorem qh{K:Int->Tr}(ht:c.t.root<=9223372036854775807)(hb:∀(s:Mm) (B:Fr) (g par i l r:Int),s.pv=((u,pO b c g par i l),Hv)->r<=s.nodes.length->kF b 130 ⟨[pt u],[]⟩ [.int .i64 r] B s (K r)):U9 b u c (B7 c.t K):=by
 intro a D A B w g par i l e ok hm hA hB hs;obtain⟨a0,rfl⟩:∃a0:AS,a=AS.wp a0 u (pO b c g par i l):=⟨a,uA e⟩;have hT:tJ b K (AS.wp a0 u (pO b c g par i l)).mm 130 ⟨[pt u],[]⟩ B:=⟨by kernel_rfl,λ r s1 l1 hr _=>hb s1 B g par i l r l1.pv hr⟩;refine enter func92 ntmps92 rfl rfl hs ?_;simp only[cN]
 refine K1e ?_;intro x2;refine aI (gK (A0:=A) (λ w1 hw=>Ml ht hT ok hm hA hB hw)) (λ x9 h9=>?_);refine aM (cC λ _=>aC rf bI rf (aY _) cY rf dM) (λ _=>?_);refine aE ?_;refine bF results92 (λ w hw=>?_);exact⟨x9,rfl,h9,hw.rN⟩
theorem Yw{T:Tr}(hd:U9 b u c T){found:Bool}{v g par i l:Int}{s:Mm}{b1 b2 b3:Nat}(hpv:s.pv=((u,pO b c g par i l),Hv))(k:Bool):kF b 285 [pt b1,pt b2,pt b3] [.bool k] (bx b1 [pt u]::bx b2 [.bool found]::bx b3 [.int .u64 v]::B) s (if k=true then .done (gP found v) else T):=by
 intro a D A w em ok hm0 hA hB hw0;subst em;refine K2l ?_;intro hm;refine enter func285 ntmps285 rfl rfl hw0 ?_;simp only[cN];refine J0 ?_;refine aJ (λ x5=>?_);refine aE ?_;refine Kb9 ?_;refine aX (λ c7=>?_) (λ c7=>?_);·refine J0 ?_;refine aA (fG b1 [pt u] 0 hB rfl) rfl ?_;refine aI (gK (λ w1 hw=>hd a _ A _ w1 g par i l hpv ok hm hA hB hw)) (λ x9 h9=>?_);refine aM (cC λ _=>aC rf bI rf (aY _) cY rf dM) (λ _=>?_);refine aE ?_;refine bF results285 (λ w hw=>?_);refine⟨x9,rfl,⟨?_,h9.2⟩,hw.rN⟩;rw[if_neg (by simpa using c7)];exact h9.1
 ·refine Kc4 ?_;refine aA (fG b2 [.bool found] 0 hB rfl) rfl ?_;refine aA (fG b3 [.int .u64 v] 0 hB rfl) rfl ?_;refine cI ?_;refine aH (cV (hc:=λ w1 hw=>oX (gP found v) w1)) (λ x13=>?_);refine aM (cC λ _=>aC rf bI rf (aY _) cY rf dM) (λ _=>?_);refine aE ?_;refine bF results285 (λ w hw=>?_);refine⟨(fE (gP found v),[],a),rfl,⟨?_,ok,AS.fF.refl a⟩,hw.rI⟩;rw[if_pos (by simpa using c7)];exact⟨rfl,rfl⟩
end
end
section
variable{A F B:Fr}{O:List Ow}
theorem aCs{x y z:Option Addr×List Value}:bV A (x::y::z::(F++[])) O (x::y::z::(F++A)):=bV.of λ f hf=>by
 simp only[List.mem_cons,List.mem_append] at hf;rcases hf with h|h|h|h|h;·exact .inr (.inr (.inl (by simp[h])))
 ·exact .inr (.inr (.inl (by simp[h])))
 ·exact .inr (.inr (.inl (by simp[h])))
 ·exact .inr (.inr (.inl (by simp[h])))
 ·exact .inr (.inl h)
theorem oa{x y z f:Option Addr×List Value}(h:f∈F):f∈x::y::z::F:=.tail _ (.tail _ (.tail _ h))
theorem aDh{x y z:Option Addr×List Value}(h:∀f∈B,f∈A):∀f∈x::y::z::(F++B),f∈x::y::z::(F++A):=λ f hf=>by
 simp only[List.mem_cons,List.mem_append] at hf ⊢;rcases hf with h1|h1|h1|h1|h1;·exact .inl h1
 ·exact .inr (.inl h1)
 ·exact .inr (.inr (.inl h1))
 ·exact .inr (.inr (.inr (.inl h1)))
 ·exact .inr (.inr (.inr (.inr (h f h1))))
theorem Vf{a:AS}{n:Nd}{xs:List Int}{ys:List Pr}{init:Int}{x:AX}(h:∀f∈dD a.L,f∈A):∀f∈dD (a.al n xs ys init x).L,f∈(mX n xs ys a.cs.length x).fr++A:=λ f hf=>by
 rw[qS] at hf;rcases List.mem_append.1 hf with h1|h1;·exact List.mem_append_right _ (h f h1)
 ·exact List.mem_append_left _ (by simpa[dD] using h1)
theorem ye{x:Option Addr×List Value}:bV A (x::(F++[])) O (x::(F++A)):=bV.of λ f hf=>by
 simp only[List.mem_cons,List.mem_append] at hf;rcases hf with h|h|h;·exact .inr (.inr (.inl (by simp[h])))
 ·exact .inr (.inr (.inl (by simp[h])))
 ·exact .inr (.inl h)
theorem y8{x:Option Addr×List Value}(h:∀f∈B,f∈A):∀f∈F++B,f∈x::(F++A):=λ f hf=>by
 simp only[List.mem_cons,List.mem_append] at hf ⊢;rcases hf with h1|h1;·exact .inr (.inl h1)
 ·exact .inr (.inr (h f h1))
theorem Of{w0 w:World}{M:List Nat}{H H':List (Nat×Obj)}{G:Fr}(h:SF w0 M H A (F++(G++[])) O w)(hH:H'.Sublist H:=by repeat (first|exact List.Sublist.refl _|apply List.Sublist.cons)):SF w0 M H' [] (F++G) O w:=h.ret hH (bM.dB λ f hf=>by simpa using hf) (List.Sublist.refl _)
section
variable{D:List Nat}{A B:Fr}{a:AS}{b u:Nat}{w:World}{f:FuncId}{cap:yK}{t:oB}{c:jQ}
theorem qN{T:Tr}(hd:U9 b u c T)(ht:c.t.root<=9223372036854775807){found:Bool}{v g par r l m:Int}{nd:Nd}{xs:List Int}{ys:List Pr}{k:Bool}(hk:k=true)(hpv:a.pv=((u,pO b c g par r l),Hv))(hr:r<=a.mm.nodes.length)(hmm:m<=a.mm.nodes.length)(e1:nd.brN=xs.length)(e2:nd.prN=ys.length)(hx:xs.length<=1000)(hy:ys.length<=274877906944)(hnb:oP a.mm.nodes.length a.mm.cs.length {nd.c xs ys with main:=0,prev:=0,status:=0})(hAx:aT xs=[]∨(nd.brA,aT xs)∈A)(hAy:dF ys=[]∨(nd.prA,dF ys)∈A)(ok:a.Ok)(hm1:a.mm.nodes.length<=137438953100/\a.mm.cs.length<=137438953100)(hA:∀f∈dD a.L,f∈A)(hB:∀x∈B,x∈A)(hs:SF w D [(b,dV a),(a.u,a.po)] A [] (iS a) w) :
  Calls prog 252 #[pt u,.int .i64 m,nd.v,.bool k,.bool found,.int .u64 v] w (jP b (λ c' s' B'=>eH b (.alloc (nd.c xs ys) m λ q=>iN c.t r m q (uN T found v)) a.mm c' s' B') a B D w):=by
 subst hk;obtain⟨a0,rfl⟩:∃a0:AS,a=AS.wp a0 u (pO b c g par r l):=⟨a,uA hpv⟩;have hm:(AS.wp a0 u (pO b c g par r l)).mm.Small:=⟨Nat.le_trans hm1.1 (by decide),Nat.le_trans hm1.2 (by decide)⟩;have okx:∀x:AX,((AS.wp a0 u (pO b c g par r l)).al nd xs ys m x).Ok:=λ x=>ok.al x (by omega) hy hnb (by omega)
 have hmx:∀x:AX,((AS.wp a0 u (pO b c g par r l)).al nd xs ys m x).mm.Small:=λ x=>by rw[fK];have h1:=hm1.1;have h2:=hm1.2;have h3:=eJ (k:=(nd.c xs ys).kind) (cs:=(AS.wp a0 u (pO b c g par r l)).mm.cs) (init:=m);exact⟨by show((AS.wp a0 u (pO b c g par r l)).mm.nodes++[_]).length<=_;rw[List.length_append];simp only[List.length_singleton];omega,by show(gH _ _ _).length<=_;omega⟩
 have hlx:∀x:AX,((AS.wp a0 u (pO b c g par r l)).al nd xs ys m x).mm.nodes.length=(AS.wp a0 u (pO b c g par r l)).mm.nodes.length+1:=λ x=>by rw[fK];show(_++[_]).length=_;rw[List.length_append];rfl
 have hT:∀(x:AX) (x6 xa xb:Nat),O4 b (uN T found v) ((AS.wp a0 u (pO b c g par r l)).al nd xs ys m x).mm 285 ⟨[],[pt x6,pt xa,pt xb]⟩ (bx x6 [pt u]::bx xa [.bool found]::bx xb [.int .u64 v]::((mX nd xs ys a0.cs.length x).fr++B)):=λ x x6 xa xb=>⟨by kernel_rfl,λ k s1 l1 _=>Yw hd (g:=g) (par:=par) (i:=r) (l:=l) (l1.pv.trans rfl) k⟩;refine enter func252 ntmps252 rfl rfl hs ?_;simp only[cN]
 simp only[Nd.v,Nd.cells];refine J0 ?_;refine bC (λ x6=>?_);refine bC (λ x8=>?_);refine bC (λ x10=>?_);refine bC (λ x11=>?_);refine aJ (λ x12=>?_);refine aE ?_;refine Kb9 ?_;refine aX (λ c14=>?_) (λ c14=>?_);·exact nv c14
 ·try (first|contradiction|(exfalso;omega))
  refine lL ?_;refine eO [(0,[]),(1,[]),(2,[]),(3,[]),(4,[]),(5,[]),(6,[]),(7,[]),(8,[]),(9,[]),(10,[]),(11,[]),(12,[]),(13,[]),(14,[]),(15,[]),(17,[]),(16,[0,3,4,7]),(18,[]),(19,[])] ?_;refine bH ?_;refine J4 ?_;refine K1t ?_;refine bH ?_;refine J4 ?_;refine bH ?_;refine aP ?_;refine bH ?_;refine J4 ?_;refine hY ?_;refine bH ?_;refine aP ?_;(refine cD (i:=17) (hq:=bU) (h:=?_));refine bE (i:=16) (hq:=(Ju (V:=λ _:AX=>.int .i64 ((a0.mm.nodes.length+1:Nat):Int)) (hs:=[(b,dV (AS.wp a0 u (pO b c g par r l)))]) (os:=kM (AS.wp a0 u (pO b c g par r l))) (A0:=[(nd.brA,aT xs),(nd.prA,dF ys)]) (hs':=λ x=>[(b,dV ((AS.wp a0 u (pO b c g par r l)).al nd xs ys m x))]) (os':=λ x=>kM ((AS.wp a0 u (pO b c g par r l)).al nd xs ys m x)) (Fc:=λ x=>(mX nd xs ys a0.cs.length x).fr) (hA:=E1l) (hm:=λ w=>fP _ _ _ w) (hc:=λ w1 hw=>mA (n:=nd) (xs:=xs) (ys:=ys) ok hm m e1 e2 (by omega) hy (λ f hf=>hf) hw))) (hfire:=E0w) (h:=λ x33 h33=>?_);((refine bR (i:=18) (hq:=(aW.pre (λ w h=>(show SF _ _ [_,_,(b,dV ((AS.wp a0 u (pO b c g par r l)).al nd xs ys m x33)),(u,pO b c g par r l)] _ (bx x6 [pt u]::bx x10 [.bool found]::bx x11 [.int .u64 v]::((mX nd xs ys a0.cs.length x33).fr++[]):Fr) _ w from((h.bS (.tail .head)).bS (.tail .head)).bS (.tail (.tail .head)))) (gK (a:=(AS.wp a0 u (pO b c g par r l)).al nd xs ys m x33) (A0:=bx x6 [pt u]::bx x10 [.bool found]::bx x11 [.int .u64 v]::((mX nd xs ys a0.cs.length x33).fr++A)) (B:=bx x6 [pt u]::bx x10 [.bool found]::bx x11 [.int .u64 v]::((mX nd xs ys a0.cs.length x33).fr++B)) (hA:=aCs) (λ w1 hw=>Ot (i:=r) (old:=m) (n:=((a0.mm.nodes.length+1:Nat):Int)) ht (hT x33 x6 x10 x11) (by rw[hlx];omega) (by rw[hlx];exact Int.le_refl _) (okx x33) (hmx x33) (λ f hf=>oa (Vf (hA) f hf)) (aDh hB) hw)))) (h:=λ x35=>?_);try (refine eZ (λ h35=>?_))));refine eT (i:=19) (hq:=(cC λ _=>aC rf bI rf (aY _) cY rf dM)) (h:=λ _=>?_);refine dA ?_;refine bF results252 (λ w hw=>?_);refine⟨(x35.1,x35.2.1++(bx x6 [pt u]::bx x10 [.bool found]::bx x11 [.int .u64 v]::(mX nd xs ys a0.cs.length x33).fr),x35.2.2),rfl,⟨?_,h35.2.1,?_⟩,?_⟩;·have h1:=h35.1;rw[fK] at h1;rw[List.append_assoc];exact h1
  ·exact((AS.fF.al (AS.wp a0 u (pO b c g par r l)) nd xs ys m x33).trans h35.2.2).more λ f hf=>(List.mem_append.1 hf).elim (λ h=>List.mem_append_left _ h) λ h=>List.mem_append_right _ (oa h)
  ·exact Of (G:=bx x6 [pt u]::bx x10 [.bool found]::bx x11 [.int .u64 v]::(mX nd xs ys a0.cs.length x33).fr) hw
end
end
end Go.Proofs.YtdeecdfockjoiaaGreatDoor
namespace Go.Ct
open Go Go.RowKit
section
def Mm.gB(s:Mm):List NI->Mm
 | []=>s
 | a::l=>Mm.gB (s.push a.c0 a.init) l
theorem qA:∀(l:List NI) (s:Mm),s.gB l=⟨s.nodes++uT l s.cs.length,lO l s.cs,s.gen,s.pv⟩
 | [],s=>by show s=_;rw[show uT [] s.cs.length=[] from rfl,List.append_nil];rfl
 | a::l,s=>by
  show(s.push a.c0 a.init).gB l=_;rw[qA l];have e:(gH a.n.kind s.cs a.init).length=s.cs.length+nC a.n.kind:=rU _ _ _;unfold Mm.push;simp only[uT,List.append_assoc,List.cons_append,List.nil_append]
  rw[show a.c0.kind=a.n.kind from rfl,e];rfl
theorem nT(l:List NI)(s:Mm):(s.gB l).nodes.length=s.nodes.length+l.length:=by rw[qA];simp[oJ]
def aDC(n:Nat)(a:NI):Prop:=oP (n+1) 0 {a.c0 with main:=0,prev:=0,status:=0}/\a.init<=n+1
def B0:Nat->List NI->Prop
 | _,[]=>True
 | n,a::l=>aDC n a/\B0 (n+1) l
theorem B0.w6 : ∀ {l r : List NI} {n : Nat}, B0 n l → B0 (n + l.length) r → B0 n (l ++ r)
  | [], _, _, _, h => h
  | a :: l, r, n, h, h2 => ⟨h.1, B0.w6 h.2 (by rw [show n + 1 + l.length = n + (a :: l).length by simp only [List.length_cons]; omega]; exact h2)⟩
theorem Ub.gB:∀{l:List NI} {s:Mm},Ub s->B0 s.nodes.length l->Ub (s.gB l)
 | [],_,h,_=>h
 | a::l,s,h,h2=>Ub.gB (l:=l) (h.y4 (h2.1.1.mono (Nat.le_refl _) (Nat.zero_le _)) (by have:=h2.1.2;exact this)) (by
  have e:(s.push a.c0 a.init).nodes.length=s.nodes.length+1:=by show(_++[_]).length=_;rw[List.length_append];rfl
  rw[e];exact h2.2)
end
end Go.Ct
namespace Go.Proofs.YtdeecdfockjoiaaGreatDoor
open Go Go.RowKit Go.Ct
section
abbrev aCX(a:AS)(d:DX)(l:List NI):AS:=⟨a.L++d.L,lO l a.cs,a.gen,a.acc,d.pn,d.cn,d.pc,d.cc,a.u,a.po,a.pl⟩
theorem xh{x:Int}{h0 h:Nat}{p:Pr}{k:ByteArray}{u gen:Int}{f:Nat}(hf:1<=f)(hx:x<f)(hh:h<18446744073709551616)(hx0:0<=x):∀n lvl,B0 (f-1) (dN x h0 h p k u gen f n lvl)
 | 0,lvl=>by
  unfold dN
  split
  ·exact⟨⟨⟨fN _,fN _,fN _,(λ r hr=>nomatch hr),fN _,fN _,fN _,⟨0,rfl,by decide⟩,⟨h,rfl,hh⟩⟩,fN _⟩,trivial⟩
  ·refine⟨⟨⟨fN _,fN _,fN _,(λ r hr=>nomatch hr),fN _,fN _,fN _,⟨0,rfl,by decide⟩,⟨h,rfl,hh⟩⟩,fN _⟩,⟨⟨fN _,fN _,fN _,λ r hr=>?_,fN _,fN _,fN _,⟨_,rfl,A7 (A7 (by decide) _) _⟩,⟨0,rfl,by decide⟩⟩,fN _⟩,trivial⟩;have hr2:r∈two (sl h0 lvl) (sl h lvl) x (f:Int):=hr;unfold two at hr2;split at hr2<;>simp only[List.mem_cons,List.not_mem_nil,or_false] at hr2<;>omega
 | n+1,lvl=>by
  have ih:=xh (h0:=h0) (p:=p) (k:=k) (u:=u) (gen:=gen) hf hx hh hx0 n (lvl+1);unfold dN;refine B0.w6 ih ⟨⟨⟨fN _,fN _,fN _,(λ r hr=>nomatch hr),fN _,fN _,fN _,⟨0,rfl,by decide⟩,⟨0,rfl,by decide⟩⟩,by show((_:Nat):Int)<=_;omega⟩,⟨⟨fN _,fN _,fN _,λ r hr=>?_,fN _,fN _,fN _,⟨_,rfl,A7 (by decide) _⟩,⟨0,rfl,by decide⟩⟩,fN _⟩,trivial⟩;have hr2:r∈[((f+(dN x h0 h p k u gen f n (lvl+1)).length:Nat):Int)]:=hr;rw[List.mem_singleton] at hr2;omega
theorem Xm{x:Int}{h0 h:Nat}{p:Pr}{k:ByteArray}{u g:Int}:∀(n lvl:Nat),∃a:NI,∀f,∃l,dN x h0 h p k u g f n lvl=a::l
 | 0,lvl=>by
  by_cases e:lvl=11
  ·exact⟨_,λ f=>⟨[],by unfold dN;rw[if_pos e]⟩⟩
  ·exact⟨vQ h k u,λ f=>⟨_,by unfold dN;rw[if_neg e]⟩⟩
 | n+1,lvl=>by
  obtain⟨a,h1⟩:=Xm (x:=x) (h0:=h0) (h:=h) (p:=p) (k:=k) (u:=u) (g:=g) n (lvl+1)
  exact⟨a,λ f=>by
   obtain⟨l,e⟩:=h1 f
   exact⟨_,by unfold dN;rw[e];rfl⟩⟩
section
variable{b:Nat}{c:jQ}{s s2:Mm}{cd:Cd}{B:Fr}{x gen:Int}{level:Nat}{K:Int->Tr}
theorem jx:∀(l:List NI) (r:Int) (s:Mm),eH b (K (if l=[] then r else((s.nodes.length+l.length:Nat):Int))) (s.gB l) cd s2 B->eH b (Bi l r K) s cd s2 B
 | [],r,s,h=>h
 | a::l,r,s,h=>by
  show eH b (Bi l ((s.nodes.length+1:Nat):Int) K) (s.push a.c0 a.init) cd s2 B;refine jx l _ _ ?_;have e:(s.push a.c0 a.init).nodes.length=s.nodes.length+1:=by show(_++[_]).length=_;rw[List.length_append];rfl
  rw[e];rw[if_neg (List.cons_ne_nil a l)] at h;cases l with
  | nil=>exact h
  | cons a2 l=>rw[if_neg (List.cons_ne_nil a2 l)];rw[show s.nodes.length+1+(a2::l).length=s.nodes.length+(a::a2::l).length by simp only[List.length_cons];omega];exact h
theorem Wt:∀(l:List NI) (r:Int) (s:Mm),Ct.jT (Bi l r K) s=Ct.jT (K (if l=[] then r else((s.nodes.length+l.length:Nat):Int))) (s.gB l)
 | [],r,s=>rfl
 | a::l,r,s=>by
  show Ct.jT (Bi l ((s.nodes.length+1:Nat):Int) K) (s.push a.c0 a.init)=_;rw[Wt l];have e:(s.push a.c0 a.init).nodes.length=s.nodes.length+1:=by show(_++[_]).length=_;rw[List.length_append];rfl
  rw[e,if_neg (List.cons_ne_nil a l)];cases l with
  | nil=>rfl
  | cons a2 l=>rw[if_neg (List.cons_ne_nil a2 l)];rw[show s.nodes.length+1+(a2::l).length=s.nodes.length+(a::a2::l).length by simp only[List.length_cons];omega];rfl
abbrev dL(c:jQ)(s:Mm)(x gen:Int)(level:Nat):List NI:=dk x (aD s.nodes x).hash.toNat c.h ((aD s.nodes x).key,(aD s.nodes x).val) c.key c.val gen (s.nodes.length+1) level
theorem xF(hok:lS c (aD s.nodes x) level gen x):∃a l,dL c s x gen level=a::l/\∀K:Int->Tr,(if lS c (aD s.nodes x) level gen x then
 Tr.alloc ((dk x (aD s.nodes x).hash.toNat c.h ((aD s.nodes x).key,(aD s.nodes x).val) c.key c.val gen 0 level).headD NI.no).c0 ((dk x (aD s.nodes x).hash.toNat c.h ((aD s.nodes x).key,(aD s.nodes x).val) c.key c.val gen 0 level).headD NI.no).init λ f =>
 Bi (dk x (aD s.nodes x).hash.toNat c.h ((aD s.nodes x).key,(aD s.nodes x).val) c.key c.val gen f.toNat level).tail f K
 else .stuck)=.alloc a.c0 a.init λ f=>Bi (dk x (aD s.nodes x).hash.toNat c.h ((aD s.nodes x).key,(aD s.nodes x).val) c.key c.val gen f.toNat level).tail f K:=by obtain⟨a,h⟩:=Xm (x:=x) (h0:=(aD s.nodes x).hash.toNat) (h:=c.h) (p:=((aD s.nodes x).key,(aD s.nodes x).val)) (k:=c.key) (u:=c.val) (g:=gen) (xR (aD s.nodes x).hash.toNat c.h-level) level;obtain⟨l,e⟩:=h (s.nodes.length+1);obtain⟨l0,e0⟩:=h 0;refine⟨a,l,e,λ K=>?_⟩;rw[if_pos hok];have e1:dk x (aD s.nodes x).hash.toNat c.h ((aD s.nodes x).key,(aD s.nodes x).val) c.key c.val gen 0 level=a::l0:=e0;rw[e1];rfl
theorem Xq(hx:x<=s.nodes.length)(hok:lS c (aD s.nodes x) level gen x)(h:eH b (K ((s.nodes.length+(dL c s x gen level).length:Nat):Int)) (s.gB (dL c s x gen level)) cd s2 B):eH b (yH c x level gen K) s cd s2 B:=by obtain⟨a,l,e,h1⟩:=xF (s:=s) hok;refine⟨hx,?_⟩;dsimp only;rw[h1];show eH b (Bi (dL c s x gen level).tail ((s.nodes.length+1:Nat):Int) K) (s.push a.c0 a.init) cd s2 B;have h2:=jx (b:=b) (K:=K) (cd:=cd) (s2:=s2) (B:=B) (a::l) 0 s;rw[e] at h ⊢;exact h2 (by rw[if_neg (List.cons_ne_nil a l)];exact h)
theorem I2:∀(l:List NI) (r:Int) (s:Mm),eH b (Bi l r K) s cd s2 B->eH b (K (if l=[] then r else((s.nodes.length+l.length:Nat):Int))) (s.gB l) cd s2 B
 | [],r,s,h=>h
 | a::l,r,s,h=>by
  have h2:=I2 l ((s.nodes.length+1:Nat):Int) (s.push a.c0 a.init) h;have e:(s.push a.c0 a.init).nodes.length=s.nodes.length+1:=by show(_++[_]).length=_;rw[List.length_append];rfl
  rw[e] at h2;rw[if_neg (List.cons_ne_nil a l)];cases l with
  | nil=>exact h2
  | cons a2 l=>rw[if_neg (List.cons_ne_nil a2 l)] at h2;rw[show s.nodes.length+1+(a2::l).length=s.nodes.length+(a::a2::l).length by simp only[List.length_cons];omega] at h2;exact h2
theorem Qz(hok:lS c (aD s.nodes x) level gen x)(h:eH b (yH c x level gen K) s cd s2 B):eH b (K ((s.nodes.length+(dL c s x gen level).length:Nat):Int)) (s.gB (dL c s x gen level)) cd s2 B:=by obtain⟨a,l,e,h1⟩:=xF (s:=s) hok;have h0:=h.2;dsimp only at h0;rw[h1] at h0;have h2:=I2 (b:=b) (K:=K) (cd:=cd) (s2:=s2) (B:=B) (a::l) 0 s;rw[if_neg (List.cons_ne_nil a l)] at h2;have h3:eH b (Bi (dL c s x gen level).tail ((s.nodes.length+1:Nat):Int) K) (s.push a.c0 a.init) cd s2 B:=h0;rw[e] at h3 ⊢;exact h2 h3
theorem o5(hok:lS c (aD s.nodes x) level gen x):Ct.jT (yH c x level gen K) s=Ct.jT (K ((s.nodes.length+(dL c s x gen level).length:Nat):Int)) (s.gB (dL c s x gen level)):=by
 obtain⟨a,l,e,h1⟩:=xF (s:=s) hok;unfold yH;rw[Ct.jT,h1];have h2:=Wt (K:=K) (a::l) 0 s;rw[if_neg (List.cons_ne_nil a l)] at h2;rw[e,<- h2];show Ct.jT (Bi (dL c s x gen level).tail ((s.nodes.length+1:Nat):Int) K) (s.push a.c0 a.init)=_
 rw[e];rfl
theorem ul(h:Ns (yH c x level gen K) s):lS c (aD s.nodes x) level gen x:=by
 by_cases k:lS c (aD s.nodes x) level gen x;·exact k
 ·refine(h ?_).elim;unfold yH;rw[Ct.jT,if_neg k];rfl
end
section
variable{D:List Nat}{A:Fr}{a:AS}{b:Nat}{w:World}{c:jQ}{x gen:Int}{level:Nat}
theorem kw(ok:a.Ok)(hm:a.mm.iL)(hx:x<=a.mm.nodes.length)(hok:lS c (aD a.mm.nodes x) level gen x)(hh:c.h<18446744073709551616)(hA:∀f∈dD a.L,f∈A)(hs:SF w D [(b,dV a)] A [] (kM a) w) :
  Calls Tryz.prog 287 #[.iface 63 (.pointer (some ⟨b,0,none⟩)),.int .i64 x,.int .u64 (c.h:Int),.string c.key,.int .u64 c.val,.int .i64 ((level:Nat):Int),.int .i64 gen] w λ e w' =>
   ∃y:AS×Fr,e=.returned (.tuple #[.int .i64 ((a.mm.nodes.length+(dL c a.mm x gen level).length:Nat):Int),.int .i64 0])/\(y.1.mm=a.mm.gB (dL c a.mm x gen level)/\y.1.Ok/\a.fF y.1 y.2/\∀f∈dD y.1.L,f∈dD a.L∨f∈y.2) /\
   SF w D [(b,dV y.1)] [] y.2 (kM y.1) w':=by
 obtain⟨k1,k2,k3,k4,k5,k6,k7⟩:=hok;have hl:=Vh a;have ht1:=hm.1;have ht2:a.cs.length<=137438953000:=hm.2;have hv:=Yi (aV a.L) x;have hnv:(aK (aV a.L) x).c=aD a.mm.nodes x:=hv;have hb:=ok.mo.at x;obtain⟨h0,e0,hh0⟩:=hb.hash
 have e1:(aD a.mm.nodes x).hash.toNat=h0:=by rw[e0];rfl
 have he:yA (aK (aV a.L) x) h0 c.h c.key level gen=0:=by
  unfold yA;rw[if_neg (by omega),if_neg];rintro (h1|h1|h1|h1);·exact h1 (by rw[<- k1,<- hnv];rfl)
  ·omega
  ·exact k3 (by rw[h1,<- hnv];rfl)
  ·rw[e1] at k4;omega
 have hvh:(aK (aV a.L) x).nd.hash=(h0:Int):=by
  have h1:(aK (aV a.L) x).c.hash=(h0:Int):=by rw[hnv,e0]
  exact h1
 have hb:=qc (k:=c.key) (u:=c.val) (gen:=gen) (lvl:=level) (x:=x) (v:=aK (aV a.L) x) (h0:=h0) (hs.aAW hA) ok.fit (by omega) (by omega) (by omega) rfl (λ _=>⟨hvh,k7⟩) hh0 hh (by omega)
 have hnl:Gl x (aK (aV a.L) x) h0 c.h c.key c.val gen (a.L.length+3) level=dL c a.mm x gen level:=by rw[Fv he];unfold dL dk;rw[e1,<- hnv,show a.mm.nodes.length+1=a.L.length+3 by omega];rfl
 rw[he,hnl] at hb;refine hb.mono λ e w' ⟨d,e2,⟨h1,h2⟩,hw⟩=>⟨(aCX a d (dL c a.mm x gen level),dD d.L),?_,⟨?_,⟨?_,?_⟩,⟨⟨?_,?_⟩,λ f hf=>?_⟩,λ f hf=>?_⟩,hw⟩;·rw[e2];show Ending.returned (.tuple #[.int .i64 ((a.L.length+3-1+(dL c a.mm x gen level).length:Nat):Int),_])=_;rw[show a.L.length+3-1+(dL c a.mm x gen level).length=a.mm.nodes.length+(dL c a.mm x gen level).length by omega]
 ·rw[qA];show(⟨(aV (a.L++d.L)).map dW.c,_,_,_⟩:Mm)=⟨(aV a.L).map dW.c++_,_,_,_⟩;have h3:(aV (a.L++d.L)).map dW.c=(aV a.L).map dW.c++d.L.map dW.c:=by simp only[aV,List.map_cons,List.map_append,List.cons_append]
  rw[h3,h1];rfl
 ·exact λ v hv=>(List.mem_append.1 hv).elim (ok.fit v) (h2 v)
 ·have h3:(aCX a d (dL c a.mm x gen level)).mm=a.mm.gB (dL c a.mm x gen level):=by
   rw[qA];show(⟨(aV (a.L++d.L)).map dW.c,_,_,_⟩:Mm)=⟨(aV a.L).map dW.c++_,_,_,_⟩;have h3:(aV (a.L++d.L)).map dW.c=(aV a.L).map dW.c++d.L.map dW.c:=by simp only[aV,List.map_cons,List.map_append,List.cons_append]
   rw[h3,h1];rfl
  rw[h3];refine ok.mo.gB ?_;have:=xh (h0:=(aD a.mm.nodes x).hash.toNat) (p:=((aD a.mm.nodes x).key,(aD a.mm.nodes x).val)) (k:=c.key) (u:=c.val) (gen:=gen) (f:=a.mm.nodes.length+1) (x:=x) (by omega) (by omega) hh (by omega) (xR (aD a.mm.nodes x).hash.toNat c.h-level) level;rw[show a.mm.nodes.length+1-1=a.mm.nodes.length by omega] at this;exact this
 ·exact⟨d.L.map dW.c,by show(aV (a.L++d.L)).map dW.c=(aV a.L).map dW.c++_;simp only[aV,List.map_cons,List.map_append,List.cons_append]⟩
 ·show a.cs.length<=(lO _ a.cs).length;rw[mR];have hle:∀(l:List NI) (n:Nat),n<=Mp l n:=λ l=>by
   induction l with
   | nil=>exact λ n=>Nat.le_refl _
   | cons q l ih=>exact λ n=>Nat.le_trans (Nat.le_add_right n (nC q.n.kind)) (ih _)
  exact hle _ _
 ·have hf2:f∈dD (a.L++d.L):=hf;rw[qS] at hf2;exact(List.mem_append.1 hf2).elim (λ h=>.inr (.inl h)) λ h=>.inr (.inr h)
 ·have hf2:f∈dD (a.L++d.L):=hf;rw[qS] at hf2;exact List.mem_append.1 hf2
end
end
end Go.Proofs.YtdeecdfockjoiaaGreatDoor
