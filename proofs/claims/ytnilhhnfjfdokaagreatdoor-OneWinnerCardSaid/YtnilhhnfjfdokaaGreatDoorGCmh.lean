/- Calls that may change known blocks and own lists, and leave new ones. -/
import Derived.Test.YtnilhhnfjfdokaaGreatDoorGLf
import Derived.Test.YtnilhhnfjfdokaaGreatDoorGFd1
import Derived.Test.YtnilhhnfjfdokaaGreatDoorGRt2
import Derived.Test.YtnilhhnfjfdokaaGreatDoorGShort
import Derived.Test.YtnilhhnfjfdokaaGreatDoorGDfr

set_option linter.unusedSimpArgs false
set_option linter.unusedVariables false
namespace Go.Proofs.YtnilhhnfjfdokaaGreatDoor
section
open Go Go.RowKit Go.Ct
section
variable{S:List (Nat×Value)}{w0 w:World}{M:List Nat}{H:List (Nat×Obj)}{A F:Fr}{O:List Ow}{ty:TypeId}{pos:String}{af:Array Edge}{gd:Option (Nat×Bool)}{X:Type}{V:X->Value}
theorem Jh{φ:X->Prop}{hs H':List (Nat×Obj)}{os O':List Ow}{hs' Hc H1:X->List (Nat×Obj)}{os' Oc O1:X->List Ow}{Fc F1:X->Fr}{A0:Fr}{is js:List Nat}{f:FuncId}{xs:List Operand}{at_:Array TypeId}{vs:List Value}{dst:Option Nat}
  (ha:lD S xs=vs:=by(repeat (first|exact cD _|(apply bK;focus ((conv=>{lhs;whnf});try exact rfl))));first|done|fail) (hp:plain Tryz.prog f=true:=by kernel_rfl)
  (hc:∀w,SF w (Ks hs os) hs A0 [] os w->Calls Tryz.prog f ⟨vs⟩ w λ e w'=>∃x,e=.returned (V x)/\φ x/\SF w (Ks hs os) (hs' x++Hc x) [] (Fc x) (os' x++Oc x) w')
  (hH:kX H is hs H':=by(repeat (first|exact kX.nil|(apply kX.cons;(focus ((repeat (first|exact wK.head|apply wK.tail));done));simp only[nW])));first|done|fail)
  (hO:kX O js os O':=by(repeat (first|exact kX.nil|(apply kX.cons;(focus ((repeat (first|exact wK.head|apply wK.tail));done));simp only[nW])));first|done|fail)
  (hA:cA A F O' A0:=by(repeat (first|exact cA.of (λ _ h=>Or.inr (Or.inl h))|exact cA.nil|(refine cA.cons (by first|exact Or.inl rfl|exact Or.inr (Or.inr (Or.inl (by simp)))|exact Or.inr (Or.inl (by simp))|exact Or.inr (Or.inr (Or.inr (by simp)))) ?_)));first|done|fail)
  (hl1:∀x,is.length=(hs' x).length:=by intro x;exact rfl) (hl2:∀x,js.length=(os' x).length:=by intro x;exact rfl)
  (hH1:∀x,Hc x++iR is (hs' x) H'=H1 x:=by intro x;first|(simp only[iR,oY,List.nil_append,List.cons_append];exact rfl)|exact rfl) (hF1:∀x,Fc x++F=F1 x:=by intro x;first|(simp only[List.nil_append,List.cons_append];exact rfl)|exact rfl) (hO1:∀x,Oc x++iR js (os' x) O'=O1 x:=by intro x;simp only[iR,oY,mW,List.nil_append,List.cons_append];exact rfl) :
  aQ Tryz.prog S (SF w0 M H A F O) ⟨dst,.call {callee:=.value (.func f),args:=⟨xs⟩,argTypes:=at_},ty,pos,af,gd⟩ X V (λ x w=>φ x/\SF w0 M (H1 x) A (F1 x) (O1 x) w) :=
 gH (lF hp ha) λ w hw=>(hc w (hw.nZ hH hO hA)).mono λ _ _ ⟨x,he,hx,hs⟩=>⟨x,he,hx,by
  have:=hw.wE (hs':=hs' x) (Hc:=Hc x) (os':=os' x) (Oc:=Oc x) hH hO hs (hl1 x) (hl2 x)
  rw[<- hH1 x,<- hF1 x,<- hO1 x]
  exact this⟩
end
end

/- gcas, root: the tasks. -/
section
open Go Go.RowKit Go.Ct
theorem oU.ri{b:Nat}{p:Tr×Mm}{a:AS}{B B1 F:Fr}{c:Cd}{a':AS}(h:oU b p a (B1++B) (c,F,a')):oU b p a B (c,F++B1,a'):=by
 obtain⟨⟨h1,h2⟩,h3,h4⟩:=h
 refine⟨⟨?_,h2⟩,h3,h4.more λ f hf=>List.mem_append_left _ hf⟩
 simp only at h1 ⊢
 rw[List.append_assoc]
 exact h1
section
variable{D:List Nat}{A B:Fr}{a:AS}{b:Nat}{w:World}{f:FuncId}{cap:List Value}{t:nS}
theorem Du{t:Tr}{cap:List Value}(hns:Ns t a.mm)(h:Pb b t a.mm f cap B)(ok:a.Ok)(hm:a.mm.jL)(hA:∀f∈dV a.L,f∈A)(hB:∀x∈B,x∈A)(hs:SF w D [(b,eN a),(a.u,a.po)] A [] (fD a) w) :
  Calls Tryz.prog 69 #[.iface 61 (.pointer (some ⟨b,0,none⟩)),.func (.func f) #[] ⟨cap⟩] w λ e w'=>∃x:Nat×Cd×Fr×AS,e=.returned (.pointer (some ⟨x.1,0,none⟩))/\(oU b (Ct.fA t a.mm) a B x.2/\fK (Ct.fA t a.mm).1=true)/\SF w D ([(b,eN x.2.2.2),(x.2.2.2.u,x.2.2.2.po)]++[(x.1,tO b x.2.1 0)]) [] x.2.2.1 (fD x.2.2.2++[]) w' :=
 (Tz hns h ok hm hA hB hs).mono λ _ _ ⟨x,e,h,hw⟩=>⟨x,e,h,by rw[List.append_nil];exact hw.perm (List.perm_append_comm (l₁:=[(b,eN x.2.2.2),(x.2.2.2.u,x.2.2.2.po)]) (l₂:=[(x.1,tO b x.2.1 0)])) (List.Perm.refl _)⟩
end
end

/- find: the task of a lookup. -/
section
open Go Go.RowKit Go.Ct
abbrev ou:Rs:={Rs.zero with err:=1}
noncomputable def U4 (t:nS) (h:Nat) (key:ByteArray) (n:Nat):Tr:=if key.size<=64 then qB t (λ i=>nK t h key .done n i 0) else .done ou
section
variable{D:List Nat}{A B:Fr}{a:AS}{b:Nat}{w:World}{f:FuncId}{cap:wN}{t:nS}{bf h:Nat}{key:ByteArray}
theorem Zo(x y z:Option Addr×List Value):∀u∈x::z::([y]++B),u∈[x,y,z]++B:=λ u hu=>by
 simp only[List.mem_cons,List.mem_append,List.not_mem_nil,or_false] at hu ⊢
 rcases hu with h|h|h|h<;>simp[h]
theorem fm{n xf:Nat}{s:Mm}{r:Int}(hd:Hp b bf h t key n)(hn:n<=4294967296)(hr:r<=s.nodes.length)(hbf:bx bf (Cx b t key h)∈B):kL b 104 [pt xf] [.int .i64 r] (bx xf [pt bf]::B) s (nK t h key .done n r 0):=by
 intro a D A w em ok hm0 hA hB hw0
 subst em
 have hm:a.mm.Small:=hm0.small
 refine enter Tryz.func104 Tryz.ntmps104 rfl rfl hw0 ?_
 simp only[cP]
 refine J0 ?_;refine aI (λ x3=>?_);refine Kb4 ?_;refine aA (iG xf [pt bf] 0 hB rfl) rfl ?_;refine aB ?_;refine aH (kV (λ w1 hw=>hd a _ A _ r 0 w1 (by omega) (List.mem_cons_of_mem _ hbf) hr ok hm hA hB hw)) (λ x6 h6=>?_);refine aL (cE λ _=>aC rf bD rf (bA _) cY rf dI) (λ _=>?_);refine aD ?_
 refine bV Tryz.results104 (λ w hw=>?_)
 exact⟨x6,rfl,h6,hw.rN⟩
theorem eh{n xk xf:Nat}{s:Mm}(ht:t.root<=9223372036854775807)(hd:Hp b bf h t key n)(hn:n<=4294967296)(hbf:bx bf (Cx b t key h)∈B):kL b 102 [pt xk,pt xf] [] (bx xk [.string key]::bx xf [pt bf]::B) s (U4 t h key n):=by
 intro a D A w em ok hm0 hA hB hw0
 subst em
 have hm:a.mm.Small:=hm0.small
 have hfm:bx bf (Cx b t key h)∈bx xk [.string key]::bx xf [pt bf]::B:=List.mem_cons_of_mem _ (List.mem_cons_of_mem _ hbf)
 have hT:sP b (λ i=>nK t h key .done n i 0) a.mm 104 [pt xf] (bx xk [.string key]::bx xf [pt bf]::B):=⟨by kernel_rfl,λ r s1 l hr _=>(fm hd hn hr hbf).mr λ y hy=>List.mem_cons_of_mem _ hy⟩
 refine enter Tryz.func102 Tryz.ntmps102 rfl rfl hw0 ?_
 simp only[cP]
 refine J0 ?_;refine aI (λ x2=>?_);refine pT ?_;refine J0 ?_;refine aA (iG xk [.string key] 0 hB rfl) rfl ?_;refine aF (cV (hc:=λ w1 hw=>rP key w1)) (λ x4=>?_);refine wO ?_
 refine aU (λ c5=>?_) (λ c5=>?_)
 ·refine J0 ?_;refine cK ?_;refine aF (cV (hc:=λ w1 hw=>rX ou w1)) (λ x7=>?_);refine aL (cE λ _=>aC rf bD rf (bA _) cY rf dI) (λ _=>?_);refine aD ?_
  refine bV Tryz.results102 (λ w hw=>?_)
  refine⟨(fP ou,[],a),rfl,⟨?_,ok,AS.fG.refl a⟩,hw.rI⟩
  dsimp only
  unfold U4
  rw[if_neg (by simpa using c5)]
  exact⟨rfl,rfl⟩
 ·refine Kc1 ?_;refine aA (iG xf [pt bf] 0 hB rfl) rfl ?_;refine M2 ?_;refine aA (Jz bf (Cx b t key h) 0 3 hB rfl rfl (hm:=hfm)) rfl ?_;(refine aA bN rfl ?_);refine aH (kV (λ w1 hw=>N8 ht hT ok hm hA hB hw)) (λ x13 h13=>?_);refine aL (cE λ _=>aC rf bD rf (bA _) cY rf dI) (λ _=>?_);refine aD ?_
  refine bV Tryz.results102 (λ w hw=>?_)
  refine⟨x13,rfl,⟨?_,h13.2⟩,hw.rN⟩
  unfold U4
  rw[if_pos (by simpa using c5)]
  exact h13.1
end
end

/- Setting a key, as a tree. -/
section
open Go Go.RowKit Go.Ct
structure lW where
 t:nS
 key:ByteArray
 h:Nat
 val:Int
 pol:Int
 exp:Int
def jS(c:lW)(found:Bool)(v:Int):Bool:=if c.pol=1 then !found else if c.pol=2 then found else if c.pol=3 then found&&v==c.exp else true
def jH(c:lW)(r m:Int)(again:Tr):Tr:=.node m λ nm =>
 if nm.kind=3 then
  match qI nm (iF c.h 0) with
  | none=>if jS c false 0=true then .alloc (lI c.h c.key c.val) 0 λ s =>
    if(Gp nm.nd nm.xs nm.ys nm.bm.toNat (iF c.h 0) s).isSome=true then .alloc (C1 nm (iF c.h 0) s) m λ q=>qR c.t r m q λ ok=>if ok=true then .done (fL false 0) else again
    else .stuck
   else .done (dG false 0)
  | some b=>.node b λ nb=>if nb.kind=4/\nb.key=c.key then
    (if jS c true nb.val=true then .alloc (lI c.h c.key c.val) 0 λ s =>
     if(Lh nm.nd nm.xs nm.ys nm.bm.toNat (iF c.h 0) s).isSome=true then .alloc (jk nm (iF c.h 0) s) m λ q=>qR c.t r m q λ ok=>if ok=true then .done (fL true nb.val) else again
     else .stuck
    else .done (dG true nb.val))
   else .stuck
 else .stuck
def gV(c:lW):Nat->Tr
 | 0=>.stuck
 | n+1=>qB c.t λ r=>.node r λ _=>nY c.t r λ m=>jH c r m (gV c n)
end

/- Runs of several threads on one key: what holds of the memory, of a thread. -/
end Go.Proofs.YtnilhhnfjfdokaaGreatDoor
namespace Go.Ct
section
abbrev Gh:=Option (Nat×Int)
end
end Go.Ct
namespace Go.Proofs.YtnilhhnfjfdokaaGreatDoor
section
open Go Go.RowKit Go.Ct
structure Gn(key:ByteArray)(h:Nat)(s:Mm)(m u:Int):Prop where
 m5:5<=m
 ml:m<=s.nodes.length
 kd:(bU s.nodes m).kind=3
 lk:∃b:Int,5<=b/\b<=s.nodes.length/\qI (bU s.nodes m) (iF h 0)=some b/\(bU s.nodes b).kind=4/\(bU s.nodes b).key=key/\(bU s.nodes b).val=u
 p4:4<=(bU s.nodes m).prev
 pl:(bU s.nodes m).prev<=s.cs.length
structure Jx(key:ByteArray)(h:Nat)(val:Nat->Int)(s:Mm)(σ:Gh):Prop where
 n3:bU s.nodes 3=eO eZ 0
 n4:bU s.nodes 4=eO (xQ 1) 1
 len:4<=s.nodes.length
 cl:3<=s.cs.length
 c1:cW s.cs 1=0
 c3:cW s.cs 3=4
 pz:∀c:Int,4<=c->c<=s.cs.length->cW s.cs c=0∨cW s.cs c=3
 m0:σ=none->cW s.cs 2=3
 m1:∀w m,σ=some (w,m)->cW s.cs 2=m/\Gn key h s m (val w)
structure Kp(s s':Mm):Prop where
 le:s.nodes.length<=s'.nodes.length
 nd:∀r:Int,r<=s.nodes.length->bU s'.nodes r=bU s.nodes r
 cl:s.cs.length<=s'.cs.length
 z:∀c:Int,4<=c->c<=s.cs.length->cW s.cs c=0->cW s'.cs c=0
section
variable(key:ByteArray)(h:Nat)(val:Nat->Int)(k:Nat)
def Cz(s:Mm)(σ:Gh)(s':Mm)(σ':Gh):Prop:=Kp s s'/\Jx key h val s' σ'/\(σ'=σ∨(σ=none/\∃w m,σ'=some (w,m)/\w≠k))
def Gr(s:Mm)(σ:Gh)(s':Mm)(σ':Gh):Prop:=Kp s s'/\Jx key h val s' σ'/\(σ'=σ∨(σ=none/\∃m,σ'=some (k,m)))/\s'.nodes.length<=s.nodes.length+2/\s'.cs.length<=s.cs.length+1
def Gd(Q:Rs->Gh->Prop):Nat->Tr->Mm->Gh->Prop
 | 0,T,_,σ=>∃r,T=.done r/\Q r σ
 | d+1,T,s,σ=>(∃r,T=.done r/\Q r σ)∨(T.live=true/\fK T=true/\∀s' σ',Cz key h val k s σ s' σ'->(kQ (T,s')).1≠.stuck/\∃σ2,Gr key h val k s' σ' (kQ (T,s')).2 σ2/\Gd Q d (kQ (T,s')).1 (kQ (T,s')).2 σ2)
end
section
variable{key:ByteArray}{h:Nat}{val:Nat->Int}{k j:Nat}{s s1 s2:Mm}{σ τ υ:Gh}{Q:Rs->Gh->Prop}
theorem Kp.refl(s:Mm):Kp s s:=⟨Nat.le_refl _,λ _ _=>rfl,Nat.le_refl _,λ _ _ _ e=>e⟩
theorem Kp.trans(a:Kp s s1)(b:Kp s1 s2):Kp s s2:=⟨Nat.le_trans a.le b.le,λ r hr=>(b.nd r (by have:=a.le;omega)).trans (a.nd r hr),Nat.le_trans a.cl b.cl,λ c h4 hc e=>b.z c h4 (by have:=a.cl;omega) (a.z c h4 hc e)⟩
theorem Gn.kp{m u:Int}(g:Gn key h s m u)(q:Kp s s1):Gn key h s1 m u:=by
 obtain⟨b,b5,bl,e1,e2,e3,e4⟩:=g.lk
 have hm:=q.nd m g.ml
 have hb:=q.nd b bl
 exact⟨g.m5,by have:=g.ml;have:=q.le;omega,by rw[hm];exact g.kd,⟨b,b5,by have:=q.le;omega,by rw[hm];exact e1,by rw[hb];exact e2,by rw[hb];exact e3,by rw[hb];exact e4⟩,by rw[hm];exact g.p4,by rw[hm];have:=g.pl;have:=q.cl;omega⟩
theorem Cz.refl(j1:Jx key h val s σ):Cz key h val k s σ s σ:=⟨.refl s,j1,.inl rfl⟩
theorem Cz.trans(a:Cz key h val k s σ s1 τ)(b:Cz key h val k s1 τ s2 υ):Cz key h val k s σ s2 υ:=by
 refine⟨a.1.trans b.1,b.2.1,?_⟩
 rcases b.2.2 with e|⟨e,w,m,e2,e3⟩
 ·rw[e];exact a.2.2
 ·rcases a.2.2 with e4|⟨_,w2,m2,e5,_⟩
  ·exact .inr ⟨by rw[<- e4];exact e,w,m,e2,e3⟩
  ·rw[e] at e5;exact nomatch e5
theorem Gr.C7(a:Gr key h val k s σ s1 τ)(hj:j≠k):Cz key h val j s σ s1 τ:=⟨a.1,a.2.1,a.2.2.1.imp_right λ⟨e,m,e2⟩=>⟨e,k,m,e2,λ e3=>hj e3.symm⟩⟩
theorem Gd.dm:∀{d:Nat} {T:Tr} {s:Mm} {σ:Gh},Gd key h val k Q d T s σ->Gd key h val k Q (d+1) T s σ
 | 0,_,_,_,g=>.inl g
 | d+1,_,_,_,g=>g.imp_right λ⟨h1,h2,h3⟩=>⟨h1,h2,λ s' σ' f=>by
  obtain⟨a,σ2,b,c⟩:=h3 s' σ' f
  exact⟨a,σ2,b,Gd.dm c⟩⟩
theorem Gd.mono{d e:Nat}{T:Tr}(g:Gd key h val k Q d T s σ)(hl:d<=e):Gd key h val k Q e T s σ:=by
 obtain⟨c,rfl⟩:=Nat.exists_eq_add_of_le hl
 clear hl
 induction c with
 | zero=>exact g
 | succ c ih=>exact ih.dm
end
end

end Go.Proofs.YtnilhhnfjfdokaaGreatDoor
