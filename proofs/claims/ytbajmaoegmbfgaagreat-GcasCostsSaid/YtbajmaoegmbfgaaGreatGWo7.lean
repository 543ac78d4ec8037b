/- Worlds: Worlds. -/
import Derived.Test.YtbajmaoegmbfgaaGreatGWr1
import Derived.Test.YtbajmaoegmbfgaaGreatGVw2
import Derived.Test.YtbajmaoegmbfgaaGreatGDp2
import Derived.Test.YtbajmaoegmbfgaaGreatGVw1
import Derived.Test.YtbajmaoegmbfgaaGreatGTt1
import Derived.Test.YtbajmaoegmbfgaaGreatGBr

set_option linter.unusedSimpArgs false
set_option linter.unusedVariables false
namespace Go.Proofs.YtbajmaoegmbfgaaGreat
section
open Go Go.RowKit Go.Ct
theorem U0(x y:AX)(acc:Int)(pn:Option Addr)(cn:Nat)(pc:Option Addr)(cc:Nat):(XS.new (L4 x y) [0,3,4] 1 acc pn cn pc cc).Ok:=by
 have hmem:∀v∈L4 x y,v=fE∨v=nX bg [] [] 0 x∨v=nX (vx 1) [] [] 1 y:=λ v hv=>by
  simp[L4] at hv
  exact hv
 refine⟨λ v hv=>?_,λ v hv=>?_,λ v hv=>?_,(λ v hv=>nomatch hv),(λ v hv=>nomatch hv),by show 2<=4;decide,by show 4<=_;decide,by show 3<=_;decide,Nat.zero_le _,Nat.le_refl _,Nat.le_refl _,Nat.le_refl _,Nat.le_refl _,Nat.zero_le _,λ v hv=>?_,by show(0:Int)<=1;decide,(λ i j _ hj=>absurd hj (Nat.not_lt_zero j)),(λ v hv=>nomatch hv)⟩
 ·rcases hmem v hv with rfl|rfl|rfl
  ·exact⟨rfl,rfl,by decide,by decide⟩
  ·exact Lq (by decide) (by decide)
  ·exact Lq (by decide) (by decide)
 ·have z:(0:Int)<=((4:Nat):Int):=by decide
  have z3:(0:Int)<=((3:Nat):Int):=by decide
  rcases hmem v hv with rfl|rfl|rfl
  ·exact⟨z,z,z,(λ r hr=>nomatch hr),z3,z3,z3,jK,jK⟩
  ·exact⟨z,z,z,(λ r hr=>nomatch hr),z3,by show(1:Int)<=((3:Nat):Int);decide,z3,jK,jK⟩
  ·exact⟨z,z,z,(λ r hr=>nomatch hr),by show(2:Int)<=((3:Nat):Int);decide,z3,z3,jK,jK⟩
 ·have hv':v=0∨v=3∨v=4:=by simpa[XS.new] using hv
  show v<=((4:Nat):Int)
  omega
 ·rcases hmem v hv with rfl|rfl|rfl<;>exact Nat.zero_le _
def kinds:List Int:=[8,8,8,9,9,10,11,12,7,8]
theorem Yz{v:Nat}(h:v<10):7<=kinds.getD v 0/\kinds.getD v 0<=12:=by
 have:v=0∨v=1∨v=2∨v=3∨v=4∨v=5∨v=6∨v=7∨v=8∨v=9:=by omega
 rcases this with rfl|rfl|rfl|rfl|rfl|rfl|rfl|rfl|rfl|rfl<;>decide
theorem Y9{v:Nat}(h:v<10):∃m:Nat,Ap.getD v 0=(m:Int)/\m<18446744073709551616:=by
 have:v=0∨v=1∨v=2∨v=3∨v=4∨v=5∨v=6∨v=7∨v=8∨v=9:=by omega
 refine⟨(Ap.getD v 0).toNat,?_⟩
 rcases this with rfl|rfl|rfl|rfl|rfl|rfl|rfl|rfl|rfl|rfl<;>decide
theorem Kx.mono{m B C E B' C' E':Nat}{W:Wd}(h:Kx m B C E W)(hB:B<=B')(hC:C<=C')(hE:E<=E'):Kx m B' C' E' W:=by
 obtain⟨s1,s2,s3⟩:=h.sz
 exact⟨h.z,⟨by omega,by omega,by omega⟩,λ e he=>by have:=h.ex e he;exact⟨this.i,this.k,this.em,this.ht,this.ha,by have:=this.gl;omega⟩,h.t0,h.tr,h.tl,by have:=h.el;omega,h.wr⟩
section
variable{S:List (Nat×Value)}{w0 w:World}{M:List Nat}{H:List (Nat×Obj)}{A F:Fr}{O:List Ow}{ty:TypeId}{pos:String}{af:Array Edge}{gd:Option (Nat×Bool)}{X:Type}{V:X->Value}
theorem cT(nH nO:Nat){φ:X->Prop}{hs:List (Nat×Obj)}{os:List Ow}{hs' H1:X->List (Nat×Obj)}{os' O1:X->List Ow}{Fc F1:X->Fr}{A0:Fr}{f:FuncId}{xs:List Operand}{at_:Array TypeId}{vs:List Value}{dst:Option Nat}
  (hc:∀w,SF w (Ks hs os) hs A0 [] os w->Calls Tryz.prog f ⟨vs⟩ w λ e w'=>∃x,e=.returned (V x)/\φ x/\SF w (Ks hs os) (hs' x) [] (Fc x) (os' x) w')
  (hA:bE A F (O.take nO) A0) (hF1:∀x,φ x->∀f∈F1 x,f.2=[]∨f∈Fc x++F)
  (ha:qX S xs=vs:=by(repeat (first|exact dC _|(apply cH;focus ((conv=>{lhs;whnf});try exact rfl))));first|done|fail) (hp:plain Tryz.prog f=true:=by kernel_rfl)
  (hH:H=H.take nH++hs:=by exact rfl) (hO:O=O.take nO++os:=by exact rfl)
  (hH1:∀x,H.take nH++hs' x=H1 x:=by intro x;simp only[List.take_succ_cons,List.take_zero,List.cons_append,List.nil_append,wH];exact rfl) (hO1:∀x,O.take nO++os' x=O1 x:=by intro x;simp only[List.take_succ_cons,List.take_zero,List.cons_append,List.nil_append,wO];exact rfl) :
  bC Tryz.prog S (SF w0 M H A F O) ⟨dst,.call {callee:=.value (.func f),args:=⟨xs⟩,argTypes:=at_},ty,pos,af,gd⟩ X V (λ x w=>φ x/\SF w0 M (H1 x) A (F1 x) (O1 x) w) :=
 iJ (oG hp ha) λ w hw=>(Mo (H':=H.take nH) (O':=O.take nO) hw ((List.Perm.of_eq hH).trans List.perm_append_comm) ((List.Perm.of_eq hO).trans List.perm_append_comm) hA (hc w)).mono λ _ _ ⟨x,he,hx,hs⟩=>⟨x,he,hx,by
  have h2:=(hs.perm (H':=H1 x) (O':=O1 x) (by rw[<- hH1 x];exact List.perm_append_comm) (by rw[<- hO1 x];exact List.perm_append_comm)).eU (hF1 x hx)
  exact h2⟩
end
theorem Vf(l:List EX):(qP l).length=l.length:=by simp[qP]
theorem u4{es:List Nat}{k:Nat}(h:k<es.length):(zQ es)[k]?=some (.pointer (some ⟨es.getD k 0,0,none⟩)):=by
 simp[zQ,jC,h]
structure WY where
 i:Nat
 pos:Nat
 W:Wd
structure WYI(m:Nat)(y:WY):Prop where
 hi:y.i<=18
 ok:Kx m (8+134217920*y.i) (1048576+y.i) y.i y.W
theorem M5.Ia{kind:Int}{ts:List fG}{q:E8}(h:M5 kind ts q)(p:Int):M5 kind ts {q with Ia:=p}:=⟨h.ky,h.mem,h.ro⟩
set_option maxRecDepth 100000 in
set_option maxHeartbeats 4000000 in
theorem de{l:List Int}{a:Option Addr}{c:Nat}{w:World}(ha:Go.Ct.Cl w a (aG l))(hl:l.length<=17592186043904) :
  Calls Tryz.prog 19 #[.slice a l.length c] w λ e w'=>∃q:Nat×Nat×Nat×Wd,e=.returned (.pointer (some ⟨q.1,0,none⟩))/\(q.2.2.1<18446744073709551616/\Kx q.2.2.1 2415922570 1048594 18 q.2.2.2)/\SF w [] (wH q.2.2.1 q.1 q.2.1 q.2.2.2) [] (aM q.2.2.2.z.L) (wO q.2.2.2) w':=by
 refine enter Tryz.func19 Tryz.ntmps19 rfl rfl (SF.s1 ha) ?_
 simp only[cD]
 refine cP ?_;refine J2 ?_;refine aD (Rb (Fc:=λ _=>[]) (Oc:=λ _=>[]) (hc:=λ w1 hw=>s7)) (λ x10 h10=>?_);refine J1 ?_;refine J0 ?_;refine aD (Rb (Fc:=λ _=>[]) (hc:=λ w1 hw=>bz w1)) (λ x11 h11=>?_);refine aA ?_;refine aD (vC (hc:=λ w1 hw=>xh (hw.tape cX fin hl))) (λ x13 h13=>?_);refine bM ?_;refine bK (λ x15=>?_);refine zI ?_;refine dA ?_;refine J3 ?_;refine aD (cM (hc:=λ w hs=>O2 hs)) (λ x21 h21=>?_);refine aN (M8 (sz:=2) (cs:=tB [⟨3,false⟩]) G9 Je rfl rfl rfl rfl rfl rfl) (λ x22=>?_);refine Py ?_;refine aS ?_;refine Dn ?_
 obtain⟨m,em,hm⟩:=Y9 h13
 refine oI [5,6,7,8,25,26,27,28,29,30,31,32,33,34,35,36,37,38,39,40,41,42,43,44,45,46,47,48,49,50,51,52,53,54,55,56,57,58,59,60,61,62,63,64,65,66,67,68,69,70,71,72,73,74,75,76,77,78,79,80,81,82,83,84,85,86,87,88,89,90,91,92,93,94,95,96,97,98] (λ y:WY=>[(5,.int .i64 ((y.i:Nat):Int))]) (λ y=>WYI m y) (λ y=>(x10,Jw a l c y.pos)::(x15,mF x11.1 (m:Int) y.W.pt y.W.ts.length y.W.kt y.W.pe (qP y.W.ex).length y.W.ke)::(x11.1,xM y.W.z)::Eg x11.1 y.W.ex) (λ y=>aM y.W.z.L) (λ y=>⟨y.W.pt,tB y.W.ts,y.W.kt,29,2⟩::⟨y.W.pe,zQ (qP y.W.ex),y.W.ke,74,1⟩::⟨y.W.z.pn,iY y.W.z.L,y.W.z.cn,47,14⟩::⟨y.W.z.pc,aG y.W.z.cs,y.W.z.cc,37,1⟩::Bx y.W.ex) (λ y=>18-y.i) (⟨0,mM l 0,⟨XS.new (L4 x21.1 x21.2.1) [0,3,4] 1 0 x21.2.1.pn x21.2.1.cn x21.2.2.1 x21.2.2.2,[⟨3,false⟩],some ⟨x22,0,none⟩,1,[],none,0⟩⟩) (⟨by show(0:Nat)<=18;decide,U0 _ _ _ _ _ _ _,⟨by show 4<=8+134217920*0;decide,by show 3<=8+134217920*0;decide,by show(1:Int)<=((8+134217920*0:Nat):Int);decide⟩,(λ e he=>nomatch he),by show 0<1;decide,rfl,by show 1<=5;decide,Nat.le_refl _,.new⟩) (λ y f hx=>?_) (hw0:=λ w hw=>by rw[em,List.append_nil] at hw;exact(hw.kH 74 1).perm (List.perm_append_comm (l₁:=[_]) (l₂:=[_,_])) (List.Perm.swap _ _ _))
 dsimp only[iA,List.map,List.cons_append,List.nil_append]
 have hy:=hx
 refine kX ?_;refine Az ?_
 (refine dX 27 (λ g27=>?_) (λ g27=>?_)<;>(first|refine aI ?_|(refine aE ?_;refine aA ?_)))
 all_goals ((first|refine aI ?_|(refine aE ?_;refine aD (vC (hc:=λ w1 hw=>wo (hw.tape cX fin hl))) (λ x29 h29=>?_)));refine bY ?_;refine aH ?_)
 all_goals
 refine aZ (λ c30=>?_) (λ c30=>?_)
 ·try exact nv c30
  all_goals (refine rR ?_;refine J0 ?_;refine aN ((by exact Li (λ _=>cN (cs:=aG kinds) Hl Je rfl rfl rfl rfl rfl))) (λ x33=>?_);refine aA ?_;refine aD (vC (hc:=λ w1 hw=>eL 10 (hw.tape cX fin hl) (by decide) (by decide))) (λ x35 h35=>?_);refine aC (dE (lst:=kinds) (k:=x35) rf rf gA fR (.new .head) (by omega) (by simp only[kinds,List.length_cons,List.length_nil];omega)) rfl ?_;refine aC (eV (lst:=kinds) (q:=x35) rf fR (.new .head) (by simp only[kinds,List.length_cons,List.length_nil];omega)) rfl ?_;refine iO ?_)
  all_goals
   refine eQ [6,38,39,40,41,42,43,44] (λ q:Int×Nat=>[(6,.int .i64 q.1)]) (λ q=>7<=q.1/\q.1<=12) (λ q=>(x10,Jw a l c q.2)::(x15,mF x11.1 (m:Int) y.W.pt y.W.ts.length y.W.kt y.W.pe (qP y.W.ex).length y.W.ke)::(x11.1,xM y.W.z)::Eg x11.1 y.W.ex) (λ _=>aM y.W.z.L) (λ _=>⟨y.W.pt,tB y.W.ts,y.W.kt,29,2⟩::⟨y.W.pe,zQ (qP y.W.ex),y.W.ke,74,1⟩::⟨y.W.z.pn,iY y.W.z.L,y.W.z.cn,47,14⟩::⟨y.W.z.pc,aG y.W.z.cs,y.W.z.cc,37,1⟩::Bx y.W.ex) (by decide) (λ _=>by exact rfl) ?_ (λ q f hx=>?_)
   ·refine aS ?_
    refine Aa ?_;refine lK ?_;refine aA ?_
    (refine dX 40 (λ g40=>?_) (λ g40=>?_)<;>(first|refine aI ?_|(refine aE ?_;refine aA ?_)))
    all_goals ((first|refine aI ?_|(refine aE ?_;refine aD (vC (hc:=λ w1 hw=>eL 3 (hw.tape cX fin hl) (by decide) (by decide))) (λ x42 h42=>?_)));refine zJ ?_;refine aH ?_)
    all_goals
    refine aZ (λ c44=>?_) (λ c44=>?_)
    ·try exact nv c44
     all_goals (refine dI ?_;refine J1 ?_)
     all_goals
      refine fC ((8,mM l (mM l y.pos))) ?_ (hw1:=λ w hw=>hw.back (hF:=aW.iI λ f hf=>List.mem_cons_of_mem _ hf))
      ·exact⟨by show(7:Int)<=8;decide,by show(8:Int)<=12;decide⟩
    ·all_goals try (exfalso;omega)
     all_goals refine aX ?_
     all_goals
      refine fC (by first|exact((λ _=>(kinds.getD x35 0,mM l (mM l y.pos))) x42)|exact(kinds.getD x35 0,mM l y.pos)) ?_ (hw1:=λ w hw=>hw.back (hF:=aW.iI λ f hf=>List.mem_cons_of_mem _ hf))
      ·exact Yz (by omega)
   dsimp only[iA,List.map,List.cons_append,List.nil_append]
   have hq:=hx
  all_goals (refine jA ?_;refine aA ?_;refine aD (cM (hs:=[(x10,Jw a l c q.2),(x15,mF x11.1 (m:Int) y.W.pt y.W.ts.length y.W.kt y.W.pe (qP y.W.ex).length y.W.ke)]) (os:=[⟨y.W.pt,tB y.W.ts,y.W.kt,29,2⟩]) (A0:=[(a,aG l)]) (hc:=λ w hs=>ko q.1 hq hl hy.ok.t0 (by have:=hy.ok.tl;omega) hy.ok.tr hs)) (λ x48 h48=>?_);refine aJ (λ x7=>?_);refine J5 ?_;refine aS ?_)
  all_goals
   refine eQ [49,50,51,52,53,54,55,56] (λ r:Int×Nat=>[]) (λ r=>True) (λ r=>(x7,.cells ⟨Qo (({x48 with Ia:=r.1}:E8).cl q.1 (m:Int))⟩ 89 (0,0))::(x10,Jw a l c r.2)::(x15,mF x11.1 (m:Int) y.W.pt y.W.ts.length y.W.kt y.W.pe (qP y.W.ex).length y.W.ke)::(x11.1,xM y.W.z)::Eg x11.1 y.W.ex) (λ _=>aM y.W.z.L) (λ _=>⟨y.W.pt,tB y.W.ts,y.W.kt,29,2⟩::⟨y.W.pe,zQ (qP y.W.ex),y.W.ke,74,1⟩::⟨y.W.z.pn,iY y.W.z.L,y.W.z.cn,47,14⟩::⟨y.W.z.pc,aG y.W.z.cs,y.W.z.cc,37,1⟩::Bx y.W.ex) (by decide) (λ _=>by exact rfl) ?_ (λ r f hx=>?_)
   ·refine aS ?_
    refine Aa ?_;refine lK ?_;refine aA ?_
    (refine dX 51 (λ g51=>?_) (λ g51=>?_)<;>(first|refine aI ?_|(refine aE ?_;refine aA ?_)))
    all_goals ((first|refine aI ?_|(refine aE ?_;refine aD (vC (hc:=λ w1 hw=>eL 3 (hw.tape cX fin hl) (by decide) (by decide))) (λ x53 h53=>?_)));refine zJ ?_;refine aH ?_)
    all_goals
    refine aZ (λ c55=>?_) (λ c55=>?_)
    ·try exact nv c55
     all_goals (refine dI ?_;refine uS ?_)
     all_goals
      refine fC ((0,mM l x48.pos)) ?_ (hw1:=λ w hw=>hw.back (hF:=aW.all))
      ·trivial
    ·all_goals try (exfalso;omega)
     all_goals refine aX ?_
     all_goals
      refine fC (by first|exact((λ _=>(x48.Ia,mM l x48.pos)) x53)|exact(x48.Ia,x48.pos)) ?_ (hw1:=λ w hw=>hw.back (hF:=aW.all))
      ·trivial
   dsimp only[iA,List.map,List.cons_append,List.nil_append]
  all_goals refine Ha ?_
  all_goals
   refine eQ [8,57,58,59,60,61,62,63,64,65,66,67,68,69] (λ s:Nat×Nat=>[(8,.int .i64 ((s.1:Nat):Int))]) (λ s=>s.1<=1048576) (λ s=>(x7,.cells ⟨Qo (({x48 with Ia:=r.1}:E8).cl q.1 (m:Int))⟩ 89 (0,0))::(x10,Jw a l c s.2)::(x15,mF x11.1 (m:Int) y.W.pt y.W.ts.length y.W.kt y.W.pe (qP y.W.ex).length y.W.ke)::(x11.1,xM y.W.z)::Eg x11.1 y.W.ex) (λ _=>aM y.W.z.L) (λ _=>⟨y.W.pt,tB y.W.ts,y.W.kt,29,2⟩::⟨y.W.pe,zQ (qP y.W.ex),y.W.ke,74,1⟩::⟨y.W.z.pn,iY y.W.z.L,y.W.z.cn,47,14⟩::⟨y.W.z.pc,aG y.W.z.cs,y.W.z.cc,37,1⟩::Bx y.W.ex) (by decide) (λ _=>by exact rfl) ?_ (λ s f hx=>?_)
   ·refine aS ?_
    refine Aa ?_;refine dA ?_;refine Qt ?_;refine Az ?_
    (refine dX 63 (λ g63=>?_) (λ g63=>?_)<;>(first|refine aI ?_|(refine aE ?_;refine aA ?_)))
    all_goals ((first|refine aI ?_|(refine aE ?_;refine aD (vC (hc:=λ w1 hw=>eL 4 (hw.tape cX fin hl) (by decide) (by decide))) (λ x65 h65=>?_)));refine vW ?_;refine aH ?_)
    all_goals
    refine aZ (λ c67=>?_) (λ c67=>?_)
    ·try exact nv c67
     all_goals (refine Aa ?_;refine aD (vC (hc:=λ w1 hw=>eL 16 (hw.tape cX fin hl) (by decide) (by decide))) (λ x69 h69=>?_);refine J1 ?_)
     all_goals
      refine fC ((x69,mM l (mM l r.2))) ?_ (hw1:=λ w hw=>hw.back (hF:=aW.all))
      ·show x69<=1048576;omega
    ·all_goals try (exfalso;omega)
     all_goals refine aX ?_
     all_goals
      refine fC (by first|exact((λ _=>(1048576,mM l r.2)) x65)|exact(1048576,r.2)) ?_ (hw1:=λ w hw=>hw.back (hF:=aW.all))
      ·exact Nat.le_refl 1048576
   dsimp only[iA,List.map,List.cons_append,List.nil_append]
   have hs1:=hx
  all_goals (refine J2 ?_;refine bP ?_;refine aA ?_;refine aD (cT 2 0 (hs:=wH m x15 x11.1 y.W) (os:=wO y.W) (A0:=aM y.W.z.L) (F1:=λ x:Wd×List aP=>aM x.1.z.L) (hc:=λ w hs=>ph (q:={x48 with Ia:=r.1}) (kind:=q.1) s.1 hs1 (by omega) (by omega) hm hy.ok (by omega) hq (h48.Ia _) (λ f hf=>hf) hs) (hA:=bE.of λ f hf=>.inr (.inr (.inl hf))) (hF1:=λ x hx f hf=>by rw[hx.2,eE] at hf;exact .inr ((List.mem_append.1 hf).elim (λ h=>List.mem_append_right _ h) (λ h=>List.mem_append_left _ h)))) (λ x73 h73=>?_);refine aH ?_)
  all_goals
   refine eQ [74,75,76,77,78,79,80,81,82,83,84,85,86,87,88,89,90,91,92,93,94,95,96,97,98] (λ u:Nat×Wd=>[]) (λ u=>Kx m (8+134217920*(y.i+1)) (1048576+(y.i+1)) (y.i+1) u.2) (λ u=>(x7,.cells ⟨Qo (({x48 with Ia:=r.1}:E8).cl q.1 (m:Int))⟩ 89 (0,0))::(x10,Jw a l c u.1)::(x15,mF x11.1 (m:Int) u.2.pt u.2.ts.length u.2.kt u.2.pe (qP u.2.ex).length u.2.ke)::(x11.1,xM u.2.z)::Eg x11.1 u.2.ex) (λ u=>aM u.2.z.L) (λ u=>⟨u.2.pt,tB u.2.ts,u.2.kt,29,2⟩::⟨u.2.pe,zQ (qP u.2.ex),u.2.ke,74,1⟩::⟨u.2.z.pn,iY u.2.z.L,u.2.z.cn,47,14⟩::⟨u.2.z.pc,aG u.2.z.cs,u.2.z.cc,37,1⟩::Bx u.2.ex) (by decide) (λ _=>by exact rfl) ?_ (λ u f hx=>?_)
   ·refine aS ?_
    refine Aa ?_;refine dA ?_;refine Qt ?_;refine Db ?_;refine aA ?_
    (refine dX 80 (λ g80=>?_) (λ g80=>?_)<;>(first|refine aI ?_|(refine aE ?_;refine aA ?_)))
    all_goals ((first|refine aI ?_|(refine aE ?_;refine aD (vC (hc:=λ w1 hw=>eL 3 (hw.tape cX fin hl) (by decide) (by decide))) (λ x82 h82=>?_)));refine vW ?_;refine aH ?_)
    all_goals
    refine aZ (λ c84=>?_) (λ c84=>?_)
    ·try exact nv c84
     all_goals (refine dZ [(0,[]),(1,[]),(2,[]),(3,[]),(4,[]),(5,[]),(6,[]),(7,[]),(8,[]),(9,[]),(10,[3]),(11,[]),(12,[]),(13,[])] ?_;refine X7 ?_;refine W0 ?_;refine nV ?_;refine bB (i:=10) (hq:=(vC (hc:=λ w1 hw=>eL ((qP x73.1.ex).length:Nat) (hw.tape cX fin hl) (by omega) (by rw[Vf];have:=h73.1.el;omega)))) (h:=λ x95 h95=>?_);refine bU (i:=11) (hq:=(s4 (cs:=zQ (qP x73.1.ex)) (k:=x95) rf rf gA fR (.own (.tail .head)) (by omega) (by rw[En];omega))) (h:=?_);refine bU (i:=12) (hq:=(s8 (cs:=zQ (qP x73.1.ex)) (v:=.pointer (some ⟨(qP x73.1.ex).getD x95 0,0,none⟩)) rf fR (.own (.tail .head)) (u4 (by omega)))) (h:=?_);refine bB (i:=13) (hq:=(cT 2 0 (hs:=wH m x15 x11.1 x73.1) (os:=wO x73.1) (A0:=aM x73.1.z.L) (F1:=λ x:Wd×List aP=>aM x.1.z.L) (hc:=λ w hs=>jd (i:=x95) (by rw[<- Vf];omega) (by omega) (by omega) hm h73.1 (λ f hf=>hf) hs) (hA:=bE.of λ f hf=>.inr (.inr (.inl hf))) (hF1:=λ x hx f hf=>by rw[hx.2.2,eE] at hf;exact .inr ((List.mem_append.1 hf).elim (λ h=>List.mem_append_right _ h) (λ h=>List.mem_append_left _ h))))) (h:=λ x98 h98=>?_);refine eJ ?_)
     all_goals
      refine fC ((mM l (mM l s.2),x98.1)) ?_ (hw1:=λ w hw=>hw.back (hF:=aW.all))
      ·exact h98.1.mono (by omega) (by omega) (Nat.le_refl _)
    ·all_goals try (exfalso;omega)
     all_goals refine aX ?_
     all_goals
      refine fC (by first|exact((λ _=>(mM l s.2,x73.1)) x82)|exact(s.2,x73.1)) ?_ (hw1:=λ w hw=>hw.back (hF:=aW.all))
      ·exact h73.1.mono (by omega) (by omega) (Nat.le_refl _)
   dsimp only[iA,List.map,List.cons_append,List.nil_append]
  all_goals (refine fF ?_;refine uT ?_)
  all_goals
   refine jG (⟨y.i+1,u.1,u.2⟩) ?_ (hw1:=λ w hw=>hw.back (hF:=aW.all))
   ·exact⟨by show y.i+1<=18;omega,hx⟩
 ·all_goals try (exfalso;omega)
  all_goals (refine bR rfl ?_;refine J2 ?_;refine J1 ?_)
  all_goals
   refine aQ Tryz.results19 (λ w hw=>?_)
   exact⟨(x15,x11.1,m,y.W),rfl,⟨hm,hy.ok.mono (by have:=hy.hi;omega) (by have:=hy.hi;omega) hy.hi⟩,hw.aV (hH:=List.Sublist.cons _ (List.Sublist.refl _)) (hF:=by exact aW.all) (hO:=List.Sublist.refl _)⟩
end

/- Pairs: the next one to step; the steps of pair number k. -/
section
open Go Go.RowKit Go.Ct
section
variable{ba bm Bz C:Nat}{D:List Nat}{A:Fr}{w:World}{S:LS}
end
section
variable{ba bm Bz C tp:Nat}{D:List Nat}{w:World}{S:LS}{l:List Int}{a pa:Option Addr}{c pc pos:Nat}
end
end

/- Pairs: Run. -/
section
open Go Go.RowKit Go.Ct
section
variable{ba bm Bz C:Nat}{D:List Nat}{A:Fr}{w:World}{S:LS}{ps:List (Nat×Nat)}
end
structure LY where
 i:Nat
 S:LS
 pos:Nat
 G:Fr
end

/- Calls with an arena; loads out of captured boxes. -/
end Go.Proofs.YtbajmaoegmbfgaaGreat
namespace Go.Ct
section
open Go Go.RowKit
abbrev bx(b:Nat)(cs:List Value):Option Addr×List Value:=(some ⟨b,0,none⟩,cs)
abbrev pt(b:Nat):Value:=.pointer (some ⟨b,0,none⟩)
abbrev fn(f:FuncId)(cap:List Value):Value:=.func (.func f) #[] ⟨cap⟩
abbrev iv(n:Int):Value:=.int .i64 n
theorem Wb{α:Type}{l l' xs:List α}{is:List Nat}(h:nK l is xs l':=by(repeat (first|exact nK.nil|(apply nK.cons;(focus ((repeat (first|exact A3.head|apply A3.tail));done));simp only[rH])));first|done|fail):nK l is xs l':=h
theorem evD{S:List (Nat×Value)}{xs:List Operand}{vs:List Value}(h:qX S xs=vs:=by(repeat (first|exact dC _|(apply cH;focus ((conv=>{lhs;whnf});try exact rfl))));first|done|fail):qX S xs=vs:=h
section
variable{w0 w:World}{M:List Nat}{H H':List (Nat×Obj)}{A F:Fr}{O O':List Ow}
theorem SF.rI(h:SF w0 M H A F O w)(hH:H'.Sublist H:=by repeat (first|exact List.Sublist.refl _|apply List.Sublist.cons))(hO:O'.Sublist O:=by repeat (first|exact List.Sublist.refl _|apply List.Sublist.cons)):SF w0 M H' [] F O' w:=h.ret hH aW.all hO
theorem SF.rN(h:SF w0 M H A (F++[]) O w)(hH:H'.Sublist H:=by repeat (first|exact List.Sublist.refl _|apply List.Sublist.cons))(hO:O'.Sublist O:=by repeat (first|exact List.Sublist.refl _|apply List.Sublist.cons)):SF w0 M H' [] F O' w:=h.ret hH (aW.iI λ f hf=>by simpa using hf) hO
variable{P:Program}{S:List (Nat×Value)}{d:Nat}{ty t:TypeId}{pos:String}{af:Array Edge}{gd:Option (Nat×Bool)}{x:Operand}{v:Value}{vs:List Value}{B:Fr}
theorem qE(b:Nat)(cs:List Value)(q:Nat)(hB:∀x∈B,x∈A)(hq:cs[q]?=some v)(hx:ev S x=.pointer (some ⟨b,q,none⟩):=by exact rfl)(ht:one P t=true:=by first|exact El rfl|kernel_rfl)(hm:bx b cs∈B:=by simp):aL P S (SF w0 M H A F O) ⟨some d,.load t x,ty,pos,af,gd⟩ v :=
 jt (a:=some ⟨b,0,none⟩) (q:=q) (hx.trans (by simp[cJ,eA])) ht (.bJ (zF.oM (hB _ hm))) hq
theorem gm(b:Nat)(cs:List Value)(q k:Nat)(hB:∀x∈B,x∈A)(hv:(cs.drop q).take k=vs)(hl:vs.length=k)(hx:ev S x=.pointer (some ⟨b,q,none⟩):=by exact rfl)(ht:jM P t k=true:=by exact eP)(hm:bx b cs∈B:=by simp):aL P S (SF w0 M H A F O) ⟨some d,.load t x,ty,pos,af,gd⟩ (.agg ⟨vs⟩) :=
 Qm (a:=some ⟨b,0,none⟩) (q:=q) (hx.trans (by simp[cJ,eA])) ht (.bJ (zF.oM (hB _ hm))) hv hl
end
end
end Go.Ct
namespace Go.Proofs.YtbajmaoegmbfgaaGreat
section
open Go Go.RowKit Go.Ct
abbrev vB(b:Nat)(f:FuncId)(cap arg:List Value)(B:Fr)(s:Mm)(T:Tr):Prop:=zC b f cap arg B s λ c' s' B'=>mA b T s c' s' B'
theorem zC.mr{b:Nat}{f:FuncId}{cap arg:List Value}{B B2:Fr}{s:Mm}{T:Tr}(h:vB b f cap arg B s T)(hb:∀x∈B,x∈B2):vB b f cap arg B2 s T:=h.more hb λ _ _ _ _ hC h=>h.more hC
section
variable{S:List (Nat×Value)}{w0 w:World}{M:List Nat}{H H':List (Nat×Obj)}{A A0 F B:Fr}{O O':List Ow}{ty:TypeId}{pos:String}{af:Array Edge}{gd:Option (Nat×Bool)}{b:Nat}{a:AS}{R:Cd->Mm->Fr->Prop}{is js:List Nat}{f:FuncId}{xs:List Operand}{at_:Array TypeId}{vs cap:List Value}{dst:Option Nat}{x:Operand}{H1:Cd×Fr×AS->List (Nat×Obj)}{F1:Cd×Fr×AS->Fr}{O1:Cd×Fr×AS->List Ow}
theorem H2(hc:∀w,SF w (Ks [(b,fI a)] (fQ a)) [(b,fI a)] A0 [] (fQ a) w->Calls Tryz.prog f ⟨vs⟩ w (Dj b R a B (Ks [(b,fI a)] (fQ a)) w))
  (ha:qX S xs=vs:=by exact evD) (hp:plain Tryz.prog f=true:=by kernel_rfl) (hH:nK H is [(b,fI a)] H':=by exact Wb) (hO:nK O js (fQ a) O':=by exact Wb) (hA:bE A F O' A0:=by exact bE.of (λ _ h=>Or.inr (Or.inl h)))
  (hl1:is.length=1:=by exact rfl) (hl2:js.length=2:=by exact rfl)
  (hH1:∀y,jO is [(b,fI y.2.2)] H'=H1 y:=by intro x;simp only[jO,sR];exact rfl) (hF1:∀y,y.2.1++F=F1 y:=by intro x;exact rfl) (hO1:∀y,jO js (fQ y.2.2) O'=O1 y:=by intro x;simp only[jO,sR,mW];exact rfl) :
  bC Tryz.prog S (SF w0 M H A F O) ⟨dst,.call {callee:=.value (.func f),args:=⟨xs⟩,argTypes:=at_},ty,pos,af,gd⟩ (Cd×Fr×AS) (λ y=>.agg ⟨y.1.cells⟩) (λ y w=>(R y.1 y.2.2.mm (y.2.1++B)/\y.2.2.Ok/\a.iP y.2.2 y.2.1)/\SF w0 M (H1 y) A (F1 y) (O1 y) w) :=
 cM (hs:=[(b,fI a)]) (os:=fQ a) (hs':=λ y:Cd×Fr×AS=>[(b,fI y.2.2)]) (os':=λ y=>fQ y.2.2) (Fc:=λ y=>y.2.1) ha hp hc hH hO hA (λ _=>hl1) (λ _=>hl2) hH1 hF1 hO1
theorem Rm(hp:plain Tryz.prog f=true)(hk:zC b f cap vs B a.mm R)(ok:a.Ok)(hm:a.mm.Small)(hA0:∀f∈aM a.L,f∈A)(hB:∀x∈B,x∈A)(hx:ev S x=.func (.func f) #[] ⟨cap⟩:=by exact rfl)
  (ha:qX S xs=vs:=by exact evD) (hH:nK H is [(b,fI a)] H':=by exact Wb) (hO:nK O js (fQ a) O':=by exact Wb)
  (hl1:is.length=1:=by exact rfl) (hl2:js.length=2:=by exact rfl)
  (hH1:∀y,jO is [(b,fI y.2.2)] H'=H1 y:=by intro x;simp only[jO,sR];exact rfl) (hF1:∀y,y.2.1++F=F1 y:=by intro x;exact rfl) (hO1:∀y,jO js (fQ y.2.2) O'=O1 y:=by intro x;simp only[jO,sR,mW];exact rfl) :
  bC Tryz.prog S (SF w0 M H A F O) ⟨dst,.call {callee:=.value x,args:=⟨xs⟩,argTypes:=at_},ty,pos,af,gd⟩ (Cd×Fr×AS) (λ y=>.agg ⟨y.1.cells⟩) (λ y w=>(R y.1 y.2.2.mm (y.2.1++B)/\y.2.2.Ok/\a.iP y.2.2 y.2.1)/\SF w0 M (H1 y) A (F1 y) (O1 y) w) :=
 cMf (V:=λ y:Cd×Fr×AS=>.agg ⟨y.1.cells⟩) (hs:=[(b,fI a)]) (os:=fQ a) (hs':=λ y:Cd×Fr×AS=>[(b,fI y.2.2)]) (os':=λ y=>fQ y.2.2) (Fc:=λ y=>y.2.1) (A0:=A) hx ha hp (λ w hw=>hk a _ A w rfl ok hm hA0 hB hw) hH hO (bE.of λ _ h=>.inr (.inl h)) (λ _=>hl1) (λ _=>hl2) hH1 hF1 hO1
end
end

/- Procedures of the program as codes: calls of the arena through the interface. -/
end Go.Proofs.YtbajmaoegmbfgaaGreat
namespace Go.Ct
section
open Go Go.RowKit
theorem SF.aA6{w0 w:World}{M:List Nat}{H:List (Nat×Obj)}{A A' F:Fr}{O:List Ow}(h:SF w0 M H A F O w)(hA:∀f∈A',f∈A):SF w0 M H A' F O w:=⟨h.st,λ f hf=>h.bJ f (hA f hf),h.new,h.own,h.dis⟩
abbrev AS.al(a:AS)(n:Nd)(xs:List Int)(ys:List Pr)(init:Int)(x:AX):AS:=⟨a.L++[nX n xs ys a.cs.length x],fS n.kind a.cs init,a.gen,a.acc,x.pn,x.cn,x.pc,x.cc⟩
theorem kU{a:AS}(r:Int):bH a.mm.nodes r=(aB (bS a.L) r).c:=(qL _ _).symm
theorem dh(a:AS):a.mm.nodes.length=a.L.length+2:=by show((bS a.L).map aP.c).length=_;rw[List.length_map,oD]
theorem vh{n c c':Nat}{v:Nv}{i:Int}{cs:List Int}(hb:lQ n c {v with main:=0,prev:=0,status:=0})(hc:c=cs.length)(h1:n+1=c'):lQ c' (fS v.kind cs i).length (dG v c):=by
 subst hc
 have hcs:=jW (k:=v.kind) (cs:=cs) (init:=i)
 have hb':=hb.mono (n':=c') (c':=(fS v.kind cs i).length) (by omega) hcs.1
 refine⟨hb'.bJ,hb'.exp,hb'.new,hb'.br,?_,?_,?_,hb'.bm,hb'.hash⟩
 ·show(if v.kind=2 then((cs.length+1:Nat):Int) else 0)<=_
  split
  ·rename_i hk;unfold fS;rw[if_pos (.inl hk)];simp
  ·omega
 ·show(if v.kind=3∨v.kind=5∨v.kind=6 then((cs.length+1:Nat):Int) else 0)<=_
  split
  ·rename_i hk;unfold fS;rw[if_pos (by omega)];simp
  ·omega
 ·show(if v.kind=8 then((cs.length+1:Nat):Int) else 0)<=_
  split
  ·rename_i hk;unfold fS;rw[if_pos (by omega)];simp
  ·omega
theorem X8.push{s:Mm}(h:X8 s){v:Nv}{i:Int}(hb:lQ s.nodes.length s.cs.length {v with main:=0,prev:=0,status:=0})(hi:i<=s.nodes.length+1):X8 (s.push v i):=by
 have hcs:=jW (k:=v.kind) (cs:=s.cs) (init:=i)
 have hl:(s.nodes++[dG v s.cs.length]).length=s.nodes.length+1:=by simp
 refine⟨λ u hu=>?_,λ u hu=>?_,by have:=h.two;show 2<=(s.nodes++[dG v s.cs.length]).length;omega⟩
 ·show lQ (s.nodes++[dG v s.cs.length]).length (fS v.kind s.cs i).length u
  rcases List.mem_append.1 hu with hu|hu
  ·exact(h.nd u hu).mono (by omega) hcs.1
  ·rw[List.mem_singleton.1 hu]
   exact vh hb rfl hl.symm
 ·show u<=((s.nodes++[dG v s.cs.length]).length:Int)
  have hu':u∈fS v.kind s.cs i:=hu
  unfold fS at hu'
  split at hu'
  ·rcases List.mem_append.1 hu' with h2|h2
   ·have:=h.cs u h2;omega
   ·rw[List.mem_singleton.1 h2];omega
  ·have:=h.cs u hu';omega
theorem Au(a:AS)(n:Nd)(xs:List Int)(ys:List Pr)(init:Int)(x:AX):(a.al n xs ys init x).mm=a.mm.push (n.c xs ys) init:=by
 unfold AS.mm Mm.push
 simp only[bS,List.map_cons,List.map_append,List.map_nil,List.cons_append]
 rfl
theorem AS.Ok.al{a:AS}(ok:a.Ok){n:Nd}{xs:List Int}{ys:List Pr}{init:Int}(x:AX)(hx:xs.length<=274877906944)(hy:ys.length<=274877906944)(hb:lQ a.mm.nodes.length a.mm.cs.length {n.c xs ys with main:=0,prev:=0,status:=0})(hi:init<=a.mm.nodes.length+1):(a.al n xs ys init x).Ok:=by
 refine⟨λ v hv=>?_,by rw[Au];exact ok.mo.push hb hi⟩
 rcases List.mem_append.1 hv with hv|hv
 ·exact ok.fit v hv
 ·rw[List.mem_singleton.1 hv];exact Lq (by omega) (by omega)
theorem Uu(s:Mm)(v:Nv)(i:Int):s.Le (s.push v i):=⟨⟨_,rfl⟩,jW.1⟩
theorem AS.iP.al(a:AS)(n:Nd)(xs:List Int)(ys:List Pr)(init:Int)(x:AX):a.iP (a.al n xs ys init x) (nX n xs ys a.cs.length x).fr:=⟨by rw[Au];exact Uu _ _ _,λ f hf=>by
 rw[eE] at hf
 rcases List.mem_append.1 hf with h|h
 ·exact .inr (.inl h)
 ·refine .inr (.inr ?_)
  simpa[aM] using h⟩
theorem F8{A B B1:Fr}(h:∀f∈B,f∈A):∀f∈B1++B,f∈B1++A:=λ f hf=>(List.mem_append.1 hf).elim (λ h=>List.mem_append_left _ h) λ hf=>List.mem_append_right _ (h f hf)
theorem bE.au{A B1:Fr}{O:List Ow}:bE A B1 O (B1++A):=bE.of λ f hf=>(List.mem_append.1 hf).elim (λ h=>.inr (.inr (.inl h))) λ h=>.inr (.inl h)
theorem bE.v8{A F:Fr}{O:List Ow}{x y:Option Addr×List Value}:bE A (x::y::F) O (x::y::A):=bE.of λ f hf=>by
 rcases List.mem_cons.1 hf with h|hf
 ·exact .inr (.inr (.inl (by rw[h];simp)))
 ·rcases List.mem_cons.1 hf with h|hf
  ·exact .inr (.inr (.inl (by rw[h];simp)))
  ·exact .inr (.inl hf)
theorem Sh{A B:Fr}{x y:Option Addr×List Value}(h:∀f∈B,f∈A):∀f∈x::y::B,f∈x::y::A:=λ f hf=>(List.mem_cons.1 hf).elim (λ h=>h▸List.mem_cons_self ..) λ hf=>(List.mem_cons.1 hf).elim (λ h=>h▸List.mem_cons_of_mem _ (List.mem_cons_self ..)) λ hf=>List.mem_cons_of_mem _ (List.mem_cons_of_mem _ (h f hf))
theorem U9{P:Program}{S:List (Nat×Value)}{d:Nat}{ty t:TypeId}{pos:String}{af:Array Edge}{gd:Option (Nat×Bool)}{w0:World}{M:List Nat}{H:List (Nat×Obj)}{z:Value}(hz:cW P t=some z)(h1:z.oneCell'=true):bC P S (St w0 M H) ⟨some d,.alloc t,ty,pos,af,gd⟩ Nat (λ b=>.pointer (some ⟨b,0,none⟩)) (λ b=>St w0 M ((b,.cells ⟨[z]⟩ t (0,0))::H)) :=
 T6 (λ w _=>by
  have e:z.cells = #[z]:=by cases z<;>simp_all[Value.cells,Value.oneCell']
  simp[execOp,Instr.alloc,Ps hz,newVar,newRow,e])
end
end Go.Ct
namespace Go.Proofs.YtbajmaoegmbfgaaGreat
section
open Go Go.RowKit Go.Ct
section
variable{D:List Nat}{A:Fr}{a:AS}{b:Nat}{w:World}
theorem D8(ok:a.Ok)(hm:a.mm.Small)(hA:∀f∈aM a.L,f∈A)(r:Int)(hr:r<=a.mm.nodes.length)(hs:SF w D [(b,fI a)] A [] (fQ a) w) :
  Calls Tryz.prog 36 #[.pointer (some ⟨b,0,none⟩),.int .i64 r] w λ e w'=>∃q:Option Addr×Option Addr,e=.returned (.agg ⟨((aB (bS a.L) r).at_ q.1 q.2).nd.cells⟩)/\True /\
  SF w D [(b,fI a)] [] [] (fQ a++[⟨q.2,cR (aB (bS a.L) r).ys,(aB (bS a.L) r).ys.length,164,2⟩,⟨q.1,aG (aB (bS a.L) r).xs,(aB (bS a.L) r).xs.length,37,1⟩]) w':=by
 have h1:=hm.1
 have h2:=dh a
 exact ox (hs.aA6 hA) ok.fit r (by omega) (by omega)
theorem Im{S:List (Nat×Value)}{w0:World}{M:List Nat}{H H':List (Nat×Obj)}{F:Fr}{O O':List Ow}{ty:TypeId}{pos:String}{af:Array Edge}{gd:Option (Nat×Bool)}{is js:List Nat}{recv:Operand}{xs:List Operand}{at_:Array TypeId}{dst:Option Nat}{H1:Option Addr×Option Addr->List (Nat×Obj)}{F1:Option Addr×Option Addr->Fr}{O1:Option Addr×Option Addr->List Ow}
  (r:Int) (ok:a.Ok) (hm:a.mm.Small) (hA:∀f∈aM a.L,f∈A) (hr:r<=a.mm.nodes.length) (hx:ev S recv=.iface 42 (.pointer (some ⟨b,0,none⟩)):=by exact rfl) (ha:qX S xs=[.int .i64 r]:=by exact evD) (hH:nK H is [(b,fI a)] H':=by exact Wb) (hO:nK O js (fQ a) O':=by exact Wb)
  (hl1:is.length=1:=by exact rfl) (hl2:js.length=2:=by exact rfl) (hH1:∀x,jO is [(b,fI a)] H'=H1 x:=by intro x;simp only[jO,sR];exact rfl) (hF1:∀x,[]++F=F1 x:=by intro x;exact rfl)
  (hO1:∀x,[⟨x.2,cR (aB (bS a.L) r).ys,(aB (bS a.L) r).ys.length,164,2⟩,⟨x.1,aG (aB (bS a.L) r).xs,(aB (bS a.L) r).xs.length,37,1⟩]++jO js (fQ a) O'=O1 x:=by intro x;simp only[jO,sR,mW,List.nil_append,List.cons_append];exact rfl) :
  bC Tryz.prog S (SF w0 M H A F O) ⟨dst,.call {callee:=.invoke recv "Node",args:=⟨xs⟩,argTypes:=at_},ty,pos,af,gd⟩ (Option Addr×Option Addr) (λ q=>.agg ⟨((aB (bS a.L) r).at_ q.1 q.2).nd.cells⟩) (λ x w=>True/\SF w0 M (H1 x) A (F1 x) (O1 x) w) :=
 aBr (hs:=[(b,fI a)]) (os:=fQ a) (A0:=A) (hs':=λ _=>[(b,fI a)]) (os':=λ _=>fQ a) (Fc:=λ _=>[]) (Oc:=λ q=>[⟨q.2,cR (aB (bS a.L) r).ys,(aB (bS a.L) r).ys.length,164,2⟩,⟨q.1,aG (aB (bS a.L) r).xs,(aB (bS a.L) r).xs.length,37,1⟩]) hx ha (λ w=>Yk _ _ w) (λ w1 hw=>D8 ok hm hA r hr hw) hH hO (bE.of λ _ h=>.inr (.inl h)) (λ _=>hl1) (λ _=>hl2) hH1 hF1 hO1
theorem Hq(ok:a.Ok)(hm:a.mm.Small){n:Nd}{xs:List Int}{ys:List Pr}(init:Int)(e1:n.brN=xs.length)(e2:n.prN=ys.length)(hx:xs.length<=274877906944)(hy:ys.length<=274877906944)(hA:∀f∈[(n.brA,aG xs),(n.prA,cR ys)],f∈A)(hs:SF w D [(b,fI a)] A [] (fQ a) w) :
  Calls Tryz.prog 29 #[.pointer (some ⟨b,0,none⟩),n.v,.int .i64 init] w λ e w'=>∃x:AX,e=.returned (.int .i64 ((a.mm.nodes.length+1:Nat):Int))/\True/\SF w D [(b,fI (a.al n xs ys init x))] [] (nX n xs ys a.cs.length x).fr (fQ (a.al n xs ys init x)) w':=by
 have h1:=hm.1
 have h3:a.cs.length<=137438953472:=hm.2
 have h2:=dh a
 rw[show a.mm.nodes.length+1=a.L.length+3 by omega]
 exact cj init (hs.aA6 hA) e1 e2 hx hy (by omega) (by omega)
end
end

/- Pairs: an arena is made of a memory; a pair is added. -/
end Go.Proofs.YtbajmaoegmbfgaaGreat
namespace Go.Ct
section
open Go Go.RowKit
abbrev XS.a0(z:XS):XS:={z with acc:=0}
theorem XS.Ok.mo{x:XS}(h:x.Ok):X8 x.mm:=by
 have hl:x.mm.nodes.length=x.L.length:=by show(x.L.map aP.c).length=_;rw[List.length_map]
 refine⟨λ v hv=>?_,λ v hv=>?_,by have:=h.two;omega⟩
 ·obtain⟨u,hu,rfl⟩:=List.mem_map.1 hv
  rw[hl]
  exact h.nd u hu
 ·rw[hl];exact h.cs v hv
end
end Go.Ct
namespace Go.Proofs.YtbajmaoegmbfgaaGreat
section
open Go Go.RowKit Go.Ct
abbrev Ga(z:XS):List Ow:=[⟨z.pn,iY z.L,z.cn,47,14⟩,⟨z.pc,aG z.cs,z.cc,37,1⟩]
theorem Xh{bm:Nat}{z:XS}{D:List Nat}{A:Fr}{w:World}(ok:z.Ok)(hp:fY z.L z.cs z.gen)(hl:z.L.length<=137438953472)(hc:z.cs.length<=137438953472)(hA:∀f∈aM z.L,f∈A)(hs:SF w D [(bm,xM z)] A [] (Ga z) w) :
    Calls Tryz.prog 24 #[.pointer (some ⟨bm,0,none⟩)] w λ e w'=>∃q:Nat×AS,e=.returned (.pointer (some ⟨q.1,0,none⟩))/\(q.2.mm=z.mm/\q.2.Ok)/\SF w D ([(bm,xM z.a0)]++[(q.1,fI q.2)]) [] (aM q.2.L) (Ga z++fQ q.2) w':=by
  refine enter Tryz.func24 Tryz.ntmps24 rfl rfl hs ?_
  simp only[cD]
  refine cP ?_;refine H7 ?_;refine aC (aR (k:=3) rf cX eP (by simp only[List.drop_zero,List.take_succ_cons,List.take_zero];exact rfl) rfl) rfl ?_;refine aD (Rb (V:=λ x:Nat×List aP×(Option Addr×Nat)×(Option Addr×Nat)=>.tuple #[.pointer (some ⟨x.1,0,none⟩),.int .i64 0]) (Hc:=λ x=>[(x.1,aO x.2.1 z.cs z.gen 0 x.2.2.1.1 x.2.2.1.2 x.2.2.2.1 x.2.2.2.2)]) (Fc:=λ x=>aM x.2.1) (Oc:=λ x=>mW x.2.1 z.cs x.2.2.1.1 x.2.2.1.2 x.2.2.2.1 x.2.2.2.2) (hc:=λ w1 hw=>Y3 (L:=z.L) (cs:=z.cs) (hw.H6 (.inr (.inr (.inr ⟨_,.head _,rfl,rfl⟩))) (.inr (.inr (.inr ⟨_,.tail _ (.head _),rfl,rfl⟩))) (λ f hf=>.inr (.inl (hA f hf))) ok.fit) (by omega) (by omega) (hw.yq .head) hp)) (λ x10 h10=>?_);refine Lc ?_;refine J8 ?_;refine kX ?_;refine lU ?_;refine aH ?_
  refine aZ (λ c14=>?_) (λ c14=>?_)
  · exact nv c14
  · refine aX ?_;refine J13 ?_;refine uS ?_;refine J2 ?_;refine J1 ?_
    refine aQ Tryz.results24 (λ w hw=>?_)
    have e1:(⟨x10.2.1,z.cs,z.gen,0,x10.2.2.1.1,x10.2.2.1.2,x10.2.2.2.1,x10.2.2.2.2⟩:AS).mm=z.mm:=by
     show Mm.mk ((bS x10.2.1).map aP.c) z.cs z.gen=Mm.mk (z.L.map aP.c) z.cs z.gen
     rw[h10.1]
    refine⟨(x10.1,⟨x10.2.1,z.cs,z.gen,0,x10.2.2.1.1,x10.2.2.1.2,x10.2.2.2.1,x10.2.2.2.2⟩),rfl,⟨e1,⟨h10.2,by rw[e1];exact ok.mo⟩⟩,?_⟩
    exact(hw.perm (H':=[(bm,xM z.a0),(x10.1,_)]) (O':=Ga z++mW x10.2.1 z.cs x10.2.2.1.1 x10.2.2.1.2 x10.2.2.2.1 x10.2.2.2.2) (List.Perm.swap _ _ _) (List.perm_append_comm (l₁:=Ga z))).ret (List.Sublist.refl _) (aW.iI λ f hf=>by simpa using hf) (List.Sublist.refl _)
theorem oO{m B C E:Nat}{W:Wd}(h:Kx m B C E W):fY W.z.L W.z.cs W.z.gen:=by
 obtain⟨σ,hi⟩:=h.wr.inv
 have e1:σ.mm.nodes=W.z.L.map aP.c:=by rw[hi.mm];rfl
 have e2:σ.mm.cs=W.z.cs:=by rw[hi.mm];rfl
 have e3:σ.mm.gen=W.z.gen:=by rw[hi.mm];rfl
 have:=hi.inv.prop
 rw[e2,e3] at this
 exact this.to e1.symm
theorem Kv{f:FuncId}{vs:Array Value}{w:World}{D:List Nat}{b:Nat}{φ:Nat×Cd×Fr×AS->Prop}(h:Calls Tryz.prog f vs w λ e w'=>∃x:Nat×Cd×Fr×AS,e=.returned (.pointer (some ⟨x.1,0,none⟩))/\φ x/\SF w D [(x.1,tO b x.2.1 0),(b,fI x.2.2.2)] [] x.2.2.1 (fQ x.2.2.2) w') :
  Calls Tryz.prog f vs w λ e w'=>∃x:Nat×Cd×Fr×AS,e=.returned (.pointer (some ⟨x.1,0,none⟩))/\φ x/\SF w D ([(b,fI x.2.2.2)]++[(x.1,tO b x.2.1 0)]) [] x.2.2.1 (fQ x.2.2.2++[]) w' :=
 h.mono λ _ _ ⟨x,e,h,hw⟩=>⟨x,e,h,by rw[List.append_nil];exact hw.perm (List.Perm.swap _ _ _) (List.Perm.refl _)⟩
end

end Go.Proofs.YtbajmaoegmbfgaaGreat
