/- Worlds: Worlds. -/
import Derived.Test.YtadnboagdhcedaaGreatDoorWo6
import Derived.Test.YtadnboagdhcedaaGreatDoorGSh15
import Derived.Test.YtadnboagdhcedaaGreatDoorGWo3
import Derived.Test.YtadnboagdhcedaaGreatDoorGKw8
import Derived.KernelRfl
import Derived.Test.YtadnboagdhcedaaGreatDoorGVw4
import Derived.Test.YtadnboagdhcedaaGreatDoorGPc2
import Derived.Test.YtadnboagdhcedaaGreatDoorGAr9

set_option linter.unusedSimpArgs false
set_option linter.unusedVariables false
namespace Go.Proofs.YtadnboagdhcedaaGreatDoor
section
open Go Go.RowKit Go.Ct
theorem oo(x y:AX)(acc:Int)(pn:Option Addr)(cn:Nat)(pc:Option Addr)(cc:Nat):(XS.new (L4 x y) [0,3,4] 1 acc pn cn pc cc).Ok:=by
 have hmem:∀v∈L4 x y,v=cN∨v=kK P8 [] [] 0 x∨v=kK (tB 1) [] [] 1 y:=λ v hv=>by
  simp[L4] at hv
  exact hv
 refine⟨λ v hv=>?_,λ v hv=>?_,λ v hv=>?_,(λ v hv=>nomatch hv),(λ v hv=>nomatch hv),by show 2<=4;decide,by show 4<=_;decide,by show 3<=_;decide,Nat.zero_le _,Nat.le_refl _,Nat.le_refl _,Nat.le_refl _,Nat.le_refl _,Nat.zero_le _,λ v hv=>?_,by show(0:Int)<=1;decide,(λ i j _ hj=>absurd hj (Nat.not_lt_zero j)),(λ v hv=>nomatch hv)⟩
 ·rcases hmem v hv with rfl|rfl|rfl
  ·exact⟨rfl,rfl,by decide,by decide⟩
  ·exact I8 (by decide) (by decide)
  ·exact I8 (by decide) (by decide)
 ·have z:(0:Int)<=((4:Nat):Int):=by decide
  have z3:(0:Int)<=((3:Nat):Int):=by decide
  rcases hmem v hv with rfl|rfl|rfl
  ·exact⟨z,z,z,(λ r hr=>nomatch hr),z3,z3,z3,iG,iG⟩
  ·exact⟨z,z,z,(λ r hr=>nomatch hr),z3,by show(1:Int)<=((3:Nat):Int);decide,z3,iG,iG⟩
  ·exact⟨z,z,z,(λ r hr=>nomatch hr),by show(2:Int)<=((3:Nat):Int);decide,z3,z3,iG,iG⟩
 ·have hv':v=0∨v=3∨v=4:=by simpa[XS.new] using hv
  show v<=((4:Nat):Int)
  omega
 ·rcases hmem v hv with rfl|rfl|rfl<;>exact Nat.zero_le _
def kinds:List Int:=[8,8,8,9,9,10,11,12,7,8]
theorem ab{v:Nat}(h:v<10):7<=kinds.getD v 0/\kinds.getD v 0<=12:=by
 have:v=0∨v=1∨v=2∨v=3∨v=4∨v=5∨v=6∨v=7∨v=8∨v=9:=by omega
 rcases this with rfl|rfl|rfl|rfl|rfl|rfl|rfl|rfl|rfl|rfl<;>decide
theorem Yw{v:Nat}(h:v<10):∃m:Nat,xR.getD v 0=(m:Int)/\m<18446744073709551616:=by
 have:v=0∨v=1∨v=2∨v=3∨v=4∨v=5∨v=6∨v=7∨v=8∨v=9:=by omega
 refine⟨(xR.getD v 0).toNat,?_⟩
 rcases this with rfl|rfl|rfl|rfl|rfl|rfl|rfl|rfl|rfl|rfl<;>decide
theorem Nz.mono{m B C E B' C' E':Nat}{W:Wd}(h:Nz m B C E W)(hB:B<=B')(hC:C<=C')(hE:E<=E'):Nz m B' C' E' W:=by
 obtain⟨s1,s2,s3⟩:=h.sz
 exact⟨h.z,⟨by omega,by omega,by omega⟩,λ e he=>by have:=h.ex e he;exact⟨this.i,this.k,this.em,this.ht,this.ha,by have:=this.gl;omega⟩,h.t0,h.tr,h.tl,by have:=h.el;omega,h.wr⟩
section
variable{S:List (Nat×Value)}{w0 w:World}{M:List Nat}{H:List (Nat×Obj)}{A F:Fr}{O:List Ow}{ty:TypeId}{pos:String}{af:Array Edge}{gd:Option (Nat×Bool)}{X:Type}{V:X->Value}
theorem cT(nH nO:Nat){φ:X->Prop}{hs:List (Nat×Obj)}{os:List Ow}{hs' H1:X->List (Nat×Obj)}{os' O1:X->List Ow}{Fc F1:X->Fr}{A0:Fr}{f:FuncId}{xs:List Operand}{at_:Array TypeId}{vs:List Value}{dst:Option Nat}
  (hc:∀w,SF w (Ks hs os) hs A0 [] os w->Calls Tryz.prog f ⟨vs⟩ w λ e w'=>∃x,e=.returned (V x)/\φ x/\SF w (Ks hs os) (hs' x) [] (Fc x) (os' x) w')
  (hA:bQ A F (O.take nO) A0) (hF1:∀x,φ x->∀f∈F1 x,f.2=[]∨f∈Fc x++F)
  (ha:yS S xs=vs:=by(repeat (first|exact pB _|(apply mM;focus ((conv=>{lhs;whnf});try exact rfl))));first|done|fail) (hp:plain Tryz.prog f=true:=by kernel_rfl)
  (hH:H=H.take nH++hs:=by exact rfl) (hO:O=O.take nO++os:=by exact rfl)
  (hH1:∀x,H.take nH++hs' x=H1 x:=by intro x;simp only[List.take_succ_cons,List.take_zero,List.cons_append,List.nil_append,wH];exact rfl) (hO1:∀x,O.take nO++os' x=O1 x:=by intro x;simp only[List.take_succ_cons,List.take_zero,List.cons_append,List.nil_append,wO];exact rfl) :
  bJ Tryz.prog S (SF w0 M H A F O) ⟨dst,.call {callee:=.value (.func f),args:=⟨xs⟩,argTypes:=at_},ty,pos,af,gd⟩ X V (λ x w=>φ x/\SF w0 M (H1 x) A (F1 x) (O1 x) w) :=
 kL (mJ hp ha) λ w hw=>(Jy (H':=H.take nH) (O':=O.take nO) hw ((List.Perm.of_eq hH).trans List.perm_append_comm) ((List.Perm.of_eq hO).trans List.perm_append_comm) hA (hc w)).mono λ _ _ ⟨x,he,hx,hs⟩=>⟨x,he,hx,by
  have h2:=(hs.perm (H':=H1 x) (O':=O1 x) (by rw[<- hH1 x];exact List.perm_append_comm) (by rw[<- hO1 x];exact List.perm_append_comm)).eN (hF1 x hx)
  exact h2⟩
end
theorem Qj(l:List EX):(qT l).length=l.length:=by simp[qT]
theorem vu{es:List Nat}{k:Nat}(h:k<es.length):(xS es)[k]?=some (.pointer (some ⟨es.getD k 0,0,none⟩)):=by
 simp[xS,fM,h]
structure WY where
 i:Nat
 pos:Nat
 W:Wd
structure WYI(m:Nat)(y:WY):Prop where
 hi:y.i<=18
 ok:Nz m (8+134217920*y.i) (1048576+y.i) y.i y.W
theorem Kt.Ge{kind:Int}{ts:List eA}{q:Dw}(h:Kt kind ts q)(p:Int):Kt kind ts {q with Ge:=p}:=⟨h.ky,h.mem,h.ro⟩
set_option maxRecDepth 100000 in
set_option maxHeartbeats 4000000 in
theorem dg{l:List Int}{a:Option Addr}{c:Nat}{w:World}(ha:Go.Ct.Cl w a (aG l))(hl:l.length<=17592186043904) :
  Calls Tryz.prog 8 #[.slice a l.length c] w λ e w'=>∃q:Nat×Nat×Nat×Wd,e=.returned (.pointer (some ⟨q.1,0,none⟩))/\(q.2.2.1<18446744073709551616/\Nz q.2.2.1 2415922570 1048594 18 q.2.2.2)/\SF w [] (wH q.2.2.1 q.1 q.2.1 q.2.2.2) [] (aV q.2.2.2.z.L) (wO q.2.2.2) w':=by
 refine enter Tryz.func8 Tryz.ntmps8 rfl rfl (SF.s1 ha) ?_
 simp only[cP]
 refine cQ ?_;refine J2 ?_;refine aC (V0 (Fc:=λ _=>[]) (Oc:=λ _=>[]) (hc:=λ w1 hw=>z8)) (λ x10 h10=>?_);refine J1 ?_;refine J0 ?_;refine aC (V0 (Fc:=λ _=>[]) (hc:=λ w1 hw=>Oi w1)) (λ x11 h11=>?_);refine aB ?_;refine aC (vY (hc:=λ w1 hw=>sb (hw.tape dU fin hl))) (λ x13 h13=>?_);refine bD ?_;refine bP (λ x15=>?_);refine sV ?_;refine dL ?_;refine J3 ?_;refine aC (cM (hc:=λ w hs=>K2 hs)) (λ x21 h21=>?_);refine aU (Y3 (sz:=2) (cs:=sN [⟨3,false⟩]) Dj Fp rfl rfl rfl rfl rfl rfl) (λ x22=>?_);refine a8 ?_;refine aR ?_;refine Gh ?_
 obtain⟨m,em,hm⟩:=Yw h13
 refine lE [5,6,7,8,25,26,27,28,29,30,31,32,33,34,35,36,37,38,39,40,41,42,43,44,45,46,47,48,49,50,51,52,53,54,55,56,57,58,59,60,61,62,63,64,65,66,67,68,69,70,71,72,73,74,75,76,77,78,79,80,81,82,83,84,85,86,87,88,89,90,91,92,93,94,95,96,97,98] (λ y:WY=>[(5,.int .i64 ((y.i:Nat):Int))]) (λ y=>WYI m y) (λ y=>(x10,Oa a l c y.pos)::(x15,nK x11.1 (m:Int) y.W.pt y.W.ts.length y.W.kt y.W.pe (qT y.W.ex).length y.W.ke)::(x11.1,xM y.W.z)::Cg x11.1 y.W.ex) (λ y=>aV y.W.z.L) (λ y=>⟨y.W.pt,sN y.W.ts,y.W.kt,29,2⟩::⟨y.W.pe,xS (qT y.W.ex),y.W.ke,73,1⟩::⟨y.W.z.pn,gR y.W.z.L,y.W.z.cn,77,14⟩::⟨y.W.z.pc,aG y.W.z.cs,y.W.z.cc,62,1⟩::Ar y.W.ex) (λ y=>18-y.i) (⟨0,mY l 0,⟨XS.new (L4 x21.1 x21.2.1) [0,3,4] 1 0 x21.2.1.pn x21.2.1.cn x21.2.2.1 x21.2.2.2,[⟨3,false⟩],some ⟨x22,0,none⟩,1,[],none,0⟩⟩) (⟨by show(0:Nat)<=18;decide,oo _ _ _ _ _ _ _,⟨by show 4<=8+134217920*0;decide,by show 3<=8+134217920*0;decide,by show(1:Int)<=((8+134217920*0:Nat):Int);decide⟩,(λ e he=>nomatch he),by show 0<1;decide,rfl,by show 1<=5;decide,Nat.le_refl _,.new⟩) (λ y f hx=>?_) (hw0:=λ w hw=>by rw[em,List.append_nil] at hw;exact(hw.kT 73 1).perm (List.perm_append_comm (l₁:=[_]) (l₂:=[_,_])) (List.Perm.swap _ _ _))
 dsimp only[fY,List.map,List.cons_append,List.nil_append]
 have hy:=hx
 refine kR ?_;refine Ec ?_
 (refine eF 27 (λ g27=>?_) (λ g27=>?_)<;>refine Ka0 ?_)
 all_goals ((first|refine aH ?_|(refine aF ?_;refine aC (vY (hc:=λ w1 hw=>ry (hw.tape dU fin hl))) (λ x29 h29=>?_)));refine cH ?_;refine aI ?_)
 all_goals
 refine aZ (λ c30=>?_) (λ c30=>?_)
 ·try exact nv c30
  all_goals (refine Kc9 ?_;refine aU ((by exact B4 (λ _=>cC (cs:=aG kinds) Dh Fp rfl rfl rfl rfl rfl))) (λ x33=>?_);refine aB ?_;refine aC (vY (hc:=λ w1 hw=>eI 10 (hw.tape dU fin hl) (by decide) (by decide))) (λ x35 h35=>?_);refine aE (cB (lst:=kinds) (k:=x35) rf rf fE gA (.new .head) (by omega) (by simp only[kinds,List.length_cons,List.length_nil];omega)) rfl ?_;refine aE (cU (lst:=kinds) (q:=x35) rf gA (.new .head) (by simp only[kinds,List.length_cons,List.length_nil];omega)) rfl ?_;refine gP ?_)
  all_goals
   refine dV [6,38,39,40,41,42,43,44] (λ q:Int×Nat=>[(6,.int .i64 q.1)]) (λ q=>7<=q.1/\q.1<=12) (λ q=>(x10,Oa a l c q.2)::(x15,nK x11.1 (m:Int) y.W.pt y.W.ts.length y.W.kt y.W.pe (qT y.W.ex).length y.W.ke)::(x11.1,xM y.W.z)::Cg x11.1 y.W.ex) (λ _=>aV y.W.z.L) (λ _=>⟨y.W.pt,sN y.W.ts,y.W.kt,29,2⟩::⟨y.W.pe,xS (qT y.W.ex),y.W.ke,73,1⟩::⟨y.W.z.pn,gR y.W.z.L,y.W.z.cn,77,14⟩::⟨y.W.z.pc,aG y.W.z.cs,y.W.z.cc,62,1⟩::Ar y.W.ex) (by decide) (λ _=>by exact rfl) ?_ (λ q f hx=>?_)
   ·refine aR ?_
    refine wS ?_;refine lH ?_;refine aB ?_
    (refine eF 40 (λ g40=>?_) (λ g40=>?_)<;>refine Ka0 ?_)
    all_goals ((first|refine aH ?_|(refine aF ?_;refine aC (vY (hc:=λ w1 hw=>eI 3 (hw.tape dU fin hl) (by decide) (by decide))) (λ x42 h42=>?_)));refine Kb5 ?_)
    all_goals
    refine aZ (λ c44=>?_) (λ c44=>?_)
    ·try exact nv c44
     all_goals (refine dJ ?_;refine J1 ?_)
     all_goals
      refine eO ((8,mY l (mY l y.pos))) ?_ (hw1:=λ w hw=>hw.back (hF:=aW.oP λ f hf=>List.mem_cons_of_mem _ hf))
      ·exact⟨by show(7:Int)<=8;decide,by show(8:Int)<=12;decide⟩
    ·all_goals try (exfalso;omega)
     all_goals refine bA ?_
     all_goals
      refine eO (by first|exact((λ _=>(kinds.getD x35 0,mY l (mY l y.pos))) x42)|exact(kinds.getD x35 0,mY l y.pos)) ?_ (hw1:=λ w hw=>hw.back (hF:=aW.oP λ f hf=>List.mem_cons_of_mem _ hf))
      ·exact ab (by omega)
   dsimp only[fY,List.map,List.cons_append,List.nil_append]
   have hq:=hx
  all_goals (refine Kd1 ?_;refine aC (cM (hs:=[(x10,Oa a l c q.2),(x15,nK x11.1 (m:Int) y.W.pt y.W.ts.length y.W.kt y.W.pe (qT y.W.ex).length y.W.ke)]) (os:=[⟨y.W.pt,sN y.W.ts,y.W.kt,29,2⟩]) (A0:=[(a,aG l)]) (hc:=λ w hs=>ig q.1 hq hl hy.ok.t0 (by have:=hy.ok.tl;omega) hy.ok.tr hs)) (λ x48 h48=>?_);refine aP (λ x7=>?_);refine J5 ?_;refine aR ?_)
  all_goals
   refine dV [49,50,51,52,53,54,55,56] (λ r:Int×Nat=>[]) (λ r=>True) (λ r=>(x7,.cells ⟨Nq (({x48 with Ge:=r.1}:Dw).cl q.1 (m:Int))⟩ 70 (0,0))::(x10,Oa a l c r.2)::(x15,nK x11.1 (m:Int) y.W.pt y.W.ts.length y.W.kt y.W.pe (qT y.W.ex).length y.W.ke)::(x11.1,xM y.W.z)::Cg x11.1 y.W.ex) (λ _=>aV y.W.z.L) (λ _=>⟨y.W.pt,sN y.W.ts,y.W.kt,29,2⟩::⟨y.W.pe,xS (qT y.W.ex),y.W.ke,73,1⟩::⟨y.W.z.pn,gR y.W.z.L,y.W.z.cn,77,14⟩::⟨y.W.z.pc,aG y.W.z.cs,y.W.z.cc,62,1⟩::Ar y.W.ex) (by decide) (λ _=>by exact rfl) ?_ (λ r f hx=>?_)
   ·refine aR ?_
    refine wS ?_;refine lH ?_;refine aB ?_
    (refine eF 51 (λ g51=>?_) (λ g51=>?_)<;>refine Ka0 ?_)
    all_goals ((first|refine aH ?_|(refine aF ?_;refine aC (vY (hc:=λ w1 hw=>eI 3 (hw.tape dU fin hl) (by decide) (by decide))) (λ x53 h53=>?_)));refine Kb5 ?_)
    all_goals
    refine aZ (λ c55=>?_) (λ c55=>?_)
    ·try exact nv c55
     all_goals (refine dJ ?_;refine xC ?_)
     all_goals
      refine eO ((0,mY l x48.pos)) ?_ (hw1:=λ w hw=>hw.v6)
      ·trivial
    ·all_goals try (exfalso;omega)
     all_goals refine bA ?_
     all_goals
      refine eO (by first|exact((λ _=>(x48.Ge,mY l x48.pos)) x53)|exact(x48.Ge,x48.pos)) ?_ (hw1:=λ w hw=>hw.v6)
      ·trivial
   dsimp only[fY,List.map,List.cons_append,List.nil_append]
  all_goals refine F2 ?_
  all_goals
   refine dV [8,57,58,59,60,61,62,63,64,65,66,67,68,69] (λ s:Nat×Nat=>[(8,.int .i64 ((s.1:Nat):Int))]) (λ s=>s.1<=1048576) (λ s=>(x7,.cells ⟨Nq (({x48 with Ge:=r.1}:Dw).cl q.1 (m:Int))⟩ 70 (0,0))::(x10,Oa a l c s.2)::(x15,nK x11.1 (m:Int) y.W.pt y.W.ts.length y.W.kt y.W.pe (qT y.W.ex).length y.W.ke)::(x11.1,xM y.W.z)::Cg x11.1 y.W.ex) (λ _=>aV y.W.z.L) (λ _=>⟨y.W.pt,sN y.W.ts,y.W.kt,29,2⟩::⟨y.W.pe,xS (qT y.W.ex),y.W.ke,73,1⟩::⟨y.W.z.pn,gR y.W.z.L,y.W.z.cn,77,14⟩::⟨y.W.z.pc,aG y.W.z.cs,y.W.z.cc,62,1⟩::Ar y.W.ex) (by decide) (λ _=>by exact rfl) ?_ (λ s f hx=>?_)
   ·refine aR ?_
    refine wS ?_;refine dL ?_;refine Mx ?_;refine Ec ?_
    (refine eF 63 (λ g63=>?_) (λ g63=>?_)<;>refine Ka0 ?_)
    all_goals ((first|refine aH ?_|(refine aF ?_;refine aC (vY (hc:=λ w1 hw=>eI 4 (hw.tape dU fin hl) (by decide) (by decide))) (λ x65 h65=>?_)));refine zH ?_;refine aI ?_)
    all_goals
    refine aZ (λ c67=>?_) (λ c67=>?_)
    ·try exact nv c67
     all_goals (refine wS ?_;refine aC (vY (hc:=λ w1 hw=>eI 16 (hw.tape dU fin hl) (by decide) (by decide))) (λ x69 h69=>?_);refine J1 ?_)
     all_goals
      refine eO ((x69,mY l (mY l r.2))) ?_ (hw1:=λ w hw=>hw.v6)
      ·show x69<=1048576;omega
    ·all_goals try (exfalso;omega)
     all_goals refine bA ?_
     all_goals
      refine eO (by first|exact((λ _=>(1048576,mY l r.2)) x65)|exact(1048576,r.2)) ?_ (hw1:=λ w hw=>hw.v6)
      ·exact Nat.le_refl 1048576
   dsimp only[fY,List.map,List.cons_append,List.nil_append]
   have hs1:=hx
  all_goals (refine Kb0 ?_;refine aB ?_;refine aC (cT 2 0 (hs:=wH m x15 x11.1 y.W) (os:=wO y.W) (A0:=aV y.W.z.L) (F1:=λ x:Wd×List aL=>aV x.1.z.L) (hc:=λ w hs=>jl (q:={x48 with Ge:=r.1}) (kind:=q.1) s.1 hs1 (by omega) (by omega) hm hy.ok (by omega) hq (h48.Ge _) (λ f hf=>hf) hs) (hA:=bQ.of λ f hf=>.inr (.inr (.inl hf))) (hF1:=λ x hx f hf=>by rw[hx.2,dB] at hf;exact .inr ((List.mem_append.1 hf).elim (λ h=>List.mem_append_right _ h) (λ h=>List.mem_append_left _ h)))) (λ x73 h73=>?_);refine aI ?_)
  all_goals
   refine dV [74,75,76,77,78,79,80,81,82,83,84,85,86,87,88,89,90,91,92,93,94,95,96,97,98] (λ u:Nat×Wd=>[]) (λ u=>Nz m (8+134217920*(y.i+1)) (1048576+(y.i+1)) (y.i+1) u.2) (λ u=>(x7,.cells ⟨Nq (({x48 with Ge:=r.1}:Dw).cl q.1 (m:Int))⟩ 70 (0,0))::(x10,Oa a l c u.1)::(x15,nK x11.1 (m:Int) u.2.pt u.2.ts.length u.2.kt u.2.pe (qT u.2.ex).length u.2.ke)::(x11.1,xM u.2.z)::Cg x11.1 u.2.ex) (λ u=>aV u.2.z.L) (λ u=>⟨u.2.pt,sN u.2.ts,u.2.kt,29,2⟩::⟨u.2.pe,xS (qT u.2.ex),u.2.ke,73,1⟩::⟨u.2.z.pn,gR u.2.z.L,u.2.z.cn,77,14⟩::⟨u.2.z.pc,aG u.2.z.cs,u.2.z.cc,62,1⟩::Ar u.2.ex) (by decide) (λ _=>by exact rfl) ?_ (λ u f hx=>?_)
   ·refine aR ?_
    refine wS ?_;refine dL ?_;refine Mx ?_;refine wE ?_;refine aB ?_
    (refine eF 80 (λ g80=>?_) (λ g80=>?_)<;>refine Ka0 ?_)
    all_goals ((first|refine aH ?_|(refine aF ?_;refine aC (vY (hc:=λ w1 hw=>eI 3 (hw.tape dU fin hl) (by decide) (by decide))) (λ x82 h82=>?_)));refine zH ?_;refine aI ?_)
    all_goals
    refine aZ (λ c84=>?_) (λ c84=>?_)
    ·try exact nv c84
     all_goals (refine eG [(0,[]),(1,[]),(2,[]),(3,[]),(4,[]),(5,[]),(6,[]),(7,[]),(8,[]),(9,[]),(10,[3]),(11,[]),(12,[]),(13,[])] ?_;refine du ?_;refine uo ?_;refine lK ?_;refine bC (i:=10) (hq:=(vY (hc:=λ w1 hw=>eI ((qT x73.1.ex).length:Nat) (hw.tape dU fin hl) (by omega) (by rw[Qj];have:=h73.1.el;omega)))) (h:=λ x95 h95=>?_);refine bH (i:=11) (hq:=(qb (cs:=xS (qT x73.1.ex)) (k:=x95) rf rf fE gA (.own (.tail .head)) (by omega) (by rw[E8];omega))) (h:=?_);refine bH (i:=12) (hq:=(ng (cs:=xS (qT x73.1.ex)) (v:=.pointer (some ⟨(qT x73.1.ex).getD x95 0,0,none⟩)) rf gA (.own (.tail .head)) (vu (by omega)))) (h:=?_);refine bC (i:=13) (hq:=(cT 2 0 (hs:=wH m x15 x11.1 x73.1) (os:=wO x73.1) (A0:=aV x73.1.z.L) (F1:=λ x:Wd×List aL=>aV x.1.z.L) (hc:=λ w hs=>cg (i:=x95) (by rw[<- Qj];omega) (by omega) (by omega) hm h73.1 (λ f hf=>hf) hs) (hA:=bQ.of λ f hf=>.inr (.inr (.inl hf))) (hF1:=λ x hx f hf=>by rw[hx.2.2,dB] at hf;exact .inr ((List.mem_append.1 hf).elim (λ h=>List.mem_append_right _ h) (λ h=>List.mem_append_left _ h))))) (h:=λ x98 h98=>?_);refine dW ?_)
     all_goals
      refine eO ((mY l (mY l s.2),x98.1)) ?_ (hw1:=λ w hw=>hw.v6)
      ·exact h98.1.mono (by omega) (by omega) (Nat.le_refl _)
    ·all_goals try (exfalso;omega)
     all_goals refine bA ?_
     all_goals
      refine eO (by first|exact((λ _=>(mY l s.2,x73.1)) x82)|exact(s.2,x73.1)) ?_ (hw1:=λ w hw=>hw.v6)
      ·exact h73.1.mono (by omega) (by omega) (Nat.le_refl _)
   dsimp only[fY,List.map,List.cons_append,List.nil_append]
  all_goals (refine Kd0 ?_)
  all_goals
   refine gC (⟨y.i+1,u.1,u.2⟩) ?_ (hw1:=λ w hw=>hw.v6)
   ·exact⟨by show y.i+1<=18;omega,hx⟩
 ·all_goals try (exfalso;omega)
  all_goals (refine bI rfl ?_;refine Ka6 ?_)
  all_goals
   refine aQ Tryz.results8 (λ w hw=>?_)
   exact⟨(x15,x11.1,m,y.W),rfl,⟨hm,hy.ok.mono (by have:=hy.hi;omega) (by have:=hy.hi;omega) hy.hi⟩,hw.aT (hH:=List.Sublist.cons _ (List.Sublist.refl _)) (hF:=by exact aW.all) (hO:=List.Sublist.refl _)⟩
end

/- Shape: memories at rest of one trie: Put, Drop, Check, Quiet, Depth. -/
section
open Go Go.RowKit Go.Ct
structure SL(m B:Nat)(z:XS)(s:Mm):Prop where
 mm:z.mm=s
 ok:Nz m B 0 0 ⟨z,[⟨3,false⟩],none,0,[],none,0⟩
theorem sv(m:Nat)(x y:AX)(acc:Int)(pn:Option Addr)(cn:Nat)(pc:Option Addr)(cc:Nat):SL m 8 (XS.new (L4 x y) [0,3,4] 1 acc pn cn pc cc) vc :=
 ⟨rfl,⟨oo _ _ _ _ _ _ _,⟨by show 4<=8;decide,by show 3<=8;decide,by show(1:Int)<=((8:Nat):Int);decide⟩,(λ e he=>nomatch he),by show 0<1;decide,rfl,by show 1<=5;decide,Nat.le_refl _,.new⟩⟩
theorem SL.run{m B Nf:Nat}{z:XS}{s:Mm}{kd v:Int}{key:ByteArray}{y:RY}(h:SL m B z s)(hm:m<18446744073709551616)(hk:kd=8∨kd=9)(hky:key∈jI)(hr:zP (kG kd key v m) m (XS.new z.L z.cs z.gen z.acc z.pn z.cn z.pc z.cc) B y)(hd:y.dn=true)(hi:y.i<=Nf)(hf:(Vx kd key v m Nf s).1.live=false):SL m (B+64+128*Nf) y.x (Vx kd key v m Nf s).2:=by
 have e0:(XS.new z.L z.cs z.gen z.acc z.pn z.cn z.pc z.cc).mm=s:=h.mm
 obtain⟨e1,e2⟩:=hr.end hd (Nf:=Nf) (by rw[e0];exact hf)
 rw[e0] at e1
 refine⟨e1,⟨hr.ex.ok,?_,(λ e he=>nomatch he),by show 0<1;decide,rfl,by show 1<=5;decide,Nat.le_refl _,?_⟩⟩
 ·obtain⟨z1,z2,z3⟩:=hr.sz
  replace z1:y.x.L.length<=B+64+128*y.i:=z1
  replace z2:y.x.cs.length<=B+64+128*y.i:=z2
  replace z3:y.x.gen<=((B+64+128*y.i:Nat):Int):=z3
  exact⟨by show y.x.L.length<=_;omega,by show y.x.cs.length<=_;omega,by show y.x.gen<=_;omega⟩
 ·obtain⟨j,hrc⟩:=hr.rc
  rw[e2] at hrc
  have hkd:7<=(kG kd key v m).kind/\(kG kd key v m).kind<=12:=by
   show(7:Int)<=kd/\kd<=12
   omega
  have hco:∀σ:Kw,σ.mm=z.mm->Inv (H8 m) σ->(∀t∈[(⟨3,false⟩:eA)],bU σ t)->Jq (H8 m) σ (kG kd key v m) (kD (kG kd key v m).key m):=H5 hkd hm (.head _) hky λ _=>rfl
  exact(WR.start (k:=kG kd key v m) h.ok.wr hco hrc rfl).drop
theorem ext_mem{a:Option Addr×List Value}{L L' N:List aL}(e:L'=L++N):∀f∈a::aV L',f∈aV N++a::aV L:=λ f hf=>by
 rw[e,dB] at hf
 simp only[List.mem_append,List.mem_cons] at hf ⊢
 rcases hf with h|h|h
 ·exact .inr (.inl h)
 ·exact .inr (.inr h)
 ·exact .inl h
section
variable{m B Nf bm:Nat}{z:XS}{s:Mm}{v:Int}{key:ByteArray}{D:List Nat}{A:Fr}{w:World}
theorem ve(h:SL m B z s)(hm:m<18446744073709551616)(hky:key∈jI)(hB:B+128*Nf<=100000000000)(hN:Nf<=1048576)(hf:(Vx 8 key v m Nf s).1.live=false)(hA:∀f∈aV z.L,f∈A)(hs:SF w D [(bm,xM z)] A [] (mW z.L z.cs z.pn z.cn z.pc z.cc) w) :
  Calls Tryz.prog 16 #[.pointer (some ⟨bm,0,none⟩),.agg ⟨[.int .i64 3,.bool false]⟩,.int .u64 ((m:Nat):Int),.string key,.int .u64 v] w λ e w'=>∃q:XS×List aL,e=.returned (.tuple #[])/\(SL m (B+64+128*Nf) q.1 (Vx 8 key v m Nf s).2/\q.1.L=z.L++q.2)/\SF w D [(bm,xM q.1)] [] (aV q.2) (mW q.1.L q.1.cs q.1.pn q.1.cn q.1.pc q.1.cc) w':=by
 obtain⟨s1,s2,s3⟩:=h.ok.sz
 have e0:(XS.new z.L z.cs z.gen z.acc z.pn z.cn z.pc z.cc).mm=s:=h.mm
 refine(r5 (key:=key) (v:=v) hm hB hN h.ok.sz (Nat.le_trans s1 (by omega)) (R5 h.ok.z) (by have:(⟨z.L.map aL.c,z.cs,z.gen⟩:Mm)=s:=h.mm;rw[this];exact hf) hA hs).mono λ e w' ⟨y,e1,⟨h1,h2,h3⟩,hw⟩=>?_
 exact⟨(y.x,y.N),e1,⟨h.run hm (.inl rfl) hky h1 h2 h3 hf,h1.ext⟩,hw⟩
end
section
variable{m B:Nat}{z:XS}{s:Mm}{pn pc:Option Addr}{cn cc:Nat}{w:World}
theorem SL.ck(h:SL m B z s)(hB:B<=100000000000):z.cs.length<=274877906944/\∃r l,yl m z ⟨3,false⟩ r l:=by
 obtain⟨s1,s2,s3⟩:=h.ok.sz
 have s1:z.L.length<=B:=s1
 have s2:z.cs.length<=B:=s2
 exact⟨by omega,Mp h.ok (.head _) (by show z.L.length<=_;omega)⟩
theorem Vu(hz:SL m B z s)(hB:B<=100000000000)(hm:m<18446744073709551616)(h:gS w z.L z.cs pn pc)(hT:Go.Ct.Cl w (some ⟨0,0,none⟩) (nG iB))(hcn:z.L.length<=cn) :
  Calls Tryz.prog 11 #[pW z.L z.cs z.gen pn cn pc cc,.agg ⟨[.int .i64 3,.bool false]⟩,.int .u64 ((m:Nat):Int)] w λ e w'=>e=.returned (.int .i64 0)/\St w [] [] w':=by
 obtain⟨hc,r,l,k⟩:=hz.ck hB
 exact cx k h hT (yN hz.ok.z) hc hcn hm (by decide)
theorem Uu(hz:SL m B z s)(hB:B<=100000000000)(h:gS w z.L z.cs pn pc)(hcn:z.L.length<=cn) :
  Calls Tryz.prog 13 #[pW z.L z.cs z.gen pn cn pc cc,.agg ⟨[.int .i64 3,.bool false]⟩] w λ e w'=>e=.returned (.bool true)/\St w [] [] w':=by
 obtain⟨hc,r,l,k⟩:=hz.ck hB
 obtain⟨σ,hq⟩:=WR.rest (show WR (H8 m) m z.mm [⟨3,false⟩] [] from hz.ok.wr)
 exact bn hq (.head _) k h (yN hz.ok.z) hc hcn
theorem U3(hz:SL m B z s)(hB:B<=100000000000){r:Int}{d:Nat}(hr:fN s.nodes s.cs 3=some r)(hd:Ns s.nodes s.cs 12 r=d)(h:gS w z.L z.cs pn pc)(hT:Go.Ct.Cl w (some ⟨0,0,none⟩) (nG iB))(hcn:z.L.length<=cn) :
  Calls Tryz.prog 14 #[pW z.L z.cs z.gen pn cn pc cc,.agg ⟨[.int .i64 3,.bool false]⟩] w λ e w'=>e=.returned (.int .i64 ((d:Nat):Int))/\St w [] [] w':=by
 obtain⟨hc,r',l,k⟩:=hz.ck hB
 have e1:z.L.map aL.c=s.nodes:=by rw[<- hz.mm];rfl
 have e2:z.cs=s.cs:=by rw[<- hz.mm];rfl
 have h1:=k.root
 rw[e1,e2] at h1
 have h2:r'=r:=Option.some.inj (h1.symm.trans hr)
 subst h2 hd
 have:=E6 (cc:=cc) h hT k.sh k.mn k.pr (yN hz.ok.z) hc hcn 3 false (by decide) k.trav k.root k.trb
 rw[<- e1,<- e2]
 exact this
end
end

/- ShapeDepth: the runs, plainly. -/
section
open Go Go.RowKit Go.Ct
def dsA(v:Int):Mm:=(Vx 8 ka v 63 8 vc).2
def dsB(v:Int):Mm:=(Vx 8 kb v 63 8 (dsA v)).2
def dsC(v:Int):Mm:=(Vx 8 kc v 63 8 (dsB v)).2
def a9(v:Int):Nat->Mm
 | 0=>vc
 | 1=>dsA v
 | 2=>dsB v
 | _=>dsC v
theorem W1(v:Int):(Vx 8 ka v 63 8 (a9 v 0)).1.live=false:=by kernel_rfl
theorem Xl(v:Int):(Vx 8 kb v 63 8 (a9 v 1)).1.live=false:=by kernel_rfl
theorem Zi(v:Int):(Vx 8 kc v 63 8 (a9 v 2)).1.live=false:=by kernel_rfl
theorem dh(v:Int):fN (a9 v 3).nodes (a9 v 3).cs 3=some 4:=by kernel_rfl
theorem vw(v:Int):Ns (a9 v 3).nodes (a9 v 3).cs 12 4=0:=by kernel_rfl
end

/- Shape: the two small tries of the sanity check. -/
section
open Go Go.RowKit Go.Ct
def px:List Nv:=[cN.c,cN.c,cS (P8.c [] []) 0,cS ((tB 1).c [] []) 1]
theorem tv(x y:AX):(L4 x y).map aL.c=px:=rfl
theorem aAH:BV 0 []:=⟨by decide,by decide,λ i hi=>absurd hi (Nat.not_lt_zero i)⟩
theorem zx{r:Int}(h:1<=r):BV 1 [r]:=⟨by decide,by show 1=eM 1 64;decide,λ i hi=>by
 have:i=0:=by simp at hi;omega
 subst this
 exact h⟩
theorem Hi:eD px [0,3,4] 1:=by
 have h0:=uP (gen:=1) (by decide)
 have h1:=h0.push (init:=0) (n:=P8.c [] []) (xQ (b:=0) (by decide) aAH (λ r hr=>nomatch hr)) ⟨by decide,by decide⟩
 have h2:=h1.push (init:=3) (n:=(tB 1).c [] []) (xI (by decide) (by decide)) ⟨by decide,by decide⟩
 exact h2.cell (init:=4) ⟨by decide,by decide⟩
theorem Ta:fN px [0,3,4] 3=some 4:=by decide +kernel
theorem Xn:A7 px [0,3,4] 12 4 []=some [4]:=by decide +kernel
theorem Rt:eK px [0,3,4] 4=some 3:=by decide +kernel
theorem Wq:(cA px 3).xs=[]:=by decide +kernel
theorem s8:Nt px [0,3,4] 12 4:=⟨3,Rt,λ b hb=>by rw[Wq] at hb;exact nomatch hb⟩
theorem xg(m:Nat):Vw px [0,3,4] m 12 4 [] 0:=⟨3,Rt,⟨.inl ⟨by decide +kernel,by decide⟩,λ _ h=>absurd h (by decide),λ h=>absurd h (by decide +kernel),λ h=>absurd h (by decide +kernel),λ _ j hj=>by rw[Wq] at hj;exact absurd hj (Nat.not_lt_zero j)⟩,.inl rfl,λ j hj=>by rw[Wq] at hj;exact absurd hj (Nat.not_lt_zero j)⟩
abbrev kx:Nd:={Nd.zero with kind:=4,key:=⟨#[97]⟩}
abbrev Sj:Nd:={Nd.zero with kind:=3,bm:=1}
def P9:List Nv:=[cN.c,cN.c,cS (kx.c [] []) 0,cS (Sj.c [3] []) 0,cS ((tB 1).c [] []) 1,cS (Sj.c [5] []) 2,cS ((tB 1).c [] []) 3]
abbrev Tp:List Int:=[0,4,0,6,7]
theorem G7:eD P9 Tp 1:=by
 have h0:=uP (gen:=1) (by decide)
 have h1:=h0.push (init:=0) (n:=kx.c [] []) (Hs (by decide) (by decide)) ⟨by decide,by decide⟩
 have h2:=h1.push (init:=0) (n:=Sj.c [3] []) (xQ (b:=1) (by decide) (zx (by decide)) (λ r hr=>by rw[List.mem_singleton.1 hr];decide)) ⟨by decide,by decide⟩
 have h3:=h2.push (init:=4) (n:=(tB 1).c [] []) (xI (by decide) (by decide)) ⟨by decide,by decide⟩
 have h4:=h3.push (init:=0) (n:=Sj.c [5] []) (xQ (b:=1) (by decide) (zx (by decide)) (λ r hr=>by rw[List.mem_singleton.1 hr];decide)) ⟨by decide,by decide⟩
 have h5:=h4.push (init:=6) (n:=(tB 1).c [] []) (xI (by decide) (by decide)) ⟨by decide,by decide⟩
 exact h5.cell (init:=7) ⟨by decide,by decide⟩
theorem Q3:fN P9 Tp 5=some 7:=by decide +kernel
theorem Y0:A7 P9 Tp 12 7 []=some [7,5]:=by decide +kernel
theorem B8:eK P9 Tp 7=some 6/\eK P9 Tp 5=some 4:=by decide +kernel
theorem C5:(cA P9 6).xs=[5]/\(cA P9 4).xs=[3]/\(cA P9 5).kind=2/\(cA P9 4).kind=3/\(cA P9 3).kind=4:=by decide +kernel
theorem Yh:Nt P9 Tp 12 7:=⟨6,B8.1,λ b hb=>by
 rw[C5.1] at hb
 rw[List.mem_singleton.1 hb]
 refine .inr ⟨C5.2.2.1,4,B8.2,λ c hc=>?_⟩
 rw[C5.2.1] at hc
 rw[List.mem_singleton.1 hc]
 exact .inl C5.2.2.2.2⟩
theorem zv(m:Nat):¬Vw P9 Tp m 12 7 [] 0:=λ⟨r,hb,_,_,h⟩=>by
 rw[B8.1] at hb
 cases hb
 have h1:=h 0 (by rw[C5.1];decide) (by rw[C5.1];exact C5.2.2.1)
 rw[C5.1] at h1
 obtain⟨s,hs,hw,_⟩:=h1
 have hs2:eK P9 Tp 5=some s:=hs
 rw[B8.2] at hs2
 cases hs2
 have h2:=(hw.br C5.2.2.2.1 (by decide)).2 3 C5.2.1
 rw[C5.2.2.2.2] at h2
 exact absurd h2 (by decide)
theorem zl:Ns P9 Tp 12 7=1:=by decide +kernel
def Rz(L:List aL):Prop:=∀v∈L,v=cN∨∃n xs ys c x,v=kK n xs ys c x/\(∃b:Nat,n.bm=(b:Int)/\b<18446744073709551616)/\(∃b:Nat,n.hash=(b:Int)/\b<18446744073709551616)/\xs.length<=64/\ys.length<=64/\c<=100
theorem Qk:Rz [cN,cN]:=λ v hv=>by
 simp only[List.mem_cons,List.not_mem_nil,or_false] at hv
 exact .inl (hv.elim id id)
theorem Rz.push{L:List aL}(h:Rz L){n:Nd}{xs:List Int}{ys:List Pr}{c:Nat}{x:AX}(h1:∃b:Nat,n.bm=(b:Int)/\b<18446744073709551616)(h2:∃b:Nat,n.hash=(b:Int)/\b<18446744073709551616)(h3:xs.length<=64)(h4:ys.length<=64)(h5:c<=100):Rz (L++[kK n xs ys c x]):=λ v hv=>by
 rcases List.mem_append.1 hv with hv|hv
 ·exact h v hv
 ·rw[List.mem_singleton.1 hv]
  exact .inr ⟨n,xs,ys,c,x,rfl,h1,h2,h3,h4,h5⟩
theorem Rz.fit{L:List aL}(h:Rz L):Fits L:=λ v hv=>by
 rcases h v hv with rfl|⟨n,xs,ys,c,x,rfl,h1,h2,h3,h4,h5⟩
 ·exact Zk
 ·exact I8 (by omega) (by omega)
theorem Rz.vb{L:List aL}(h:Rz L):uM L:=λ v hv=>by
 rcases h v hv with rfl|⟨n,xs,ys,c,x,rfl,h1,h2,h3,h4,h5⟩
 ·exact⟨⟨0,rfl,by decide⟩,by simp[cN,Nd.zero],by simp[cN,Nd.zero],by simp[cN,Nd.zero]⟩
 ·refine⟨h1,?_,?_,?_⟩<;>(simp only[kK];split<;>omega)
theorem Rz.hash{L:List aL}(h:Rz L):∀v∈L,∃h:Nat,v.nd.hash=(h:Int)/\h<18446744073709551616:=λ v hv=>by
 rcases h v hv with rfl|⟨n,xs,ys,c,x,rfl,h1,h2,h3,h4,h5⟩
 ·exact⟨0,rfl,by decide⟩
 ·exact h2
theorem V5:∃b:Nat,(0:Int)=(b:Int)/\b<18446744073709551616:=⟨0,rfl,by decide⟩
theorem o64:∃b:Nat,(1:Int)=(b:Int)/\b<18446744073709551616:=⟨1,rfl,by decide⟩
theorem Iy(x y:AX):Rz (L4 x y):=(Qk.push V5 V5 (by decide) (by decide) (by decide)).push V5 V5 (by decide) (by decide) (by decide)
abbrev Wt(x1 x2 x3 x4 x5:AX):List aL:=[cN,cN]++[kK kx [] [] 0 x1]++[kK Sj [3] [] 0 x2]++[kK (tB 1) [] [] 1 x3]++[kK Sj [5] [] 2 x4]++[kK (tB 1) [] [] 3 x5]
theorem y0(x1 x2 x3 x4 x5:AX):(Wt x1 x2 x3 x4 x5).map aL.c=P9:=rfl
theorem Ip(x1 x2 x3 x4 x5:AX):Rz (Wt x1 x2 x3 x4 x5):=((((Qk.push V5 V5 (by decide) (by decide) (by decide)).push o64 V5 (by decide) (by decide) (by decide)).push V5 V5 (by decide) (by decide) (by decide)).push o64 V5 (by decide) (by decide) (by decide)).push V5 V5 (by decide) (by decide) (by decide)
end

end Go.Proofs.YtadnboagdhcedaaGreatDoor
