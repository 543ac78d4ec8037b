/- Worlds: Worlds. -/
import Derived.Test.YtadnboagdhcedaaGreatDoorGWo6
import Derived.Test.YtadnboagdhcedaaGreatDoorGQw1
import Derived.Test.YtadnboagdhcedaaGreatDoorGHs
import Derived.Test.YtadnboagdhcedaaGreatDoorGSh14
import Derived.Test.YtadnboagdhcedaaGreatDoorGTr3
import Derived.Test.YtadnboagdhcedaaGreatDoorGAr9
import Derived.Test.YtadnboagdhcedaaGreatDoorGTm2

set_option linter.unusedSimpArgs false
set_option linter.unusedVariables false
namespace Go.Proofs.YtadnboagdhcedaaGreatDoor
section
open Go Go.RowKit Go.Ct
theorem zl(x y:AX)(acc:Int)(pn:Option Addr)(cn:Nat)(pc:Option Addr)(cc:Nat):(XS.new (L4 x y) [0,3,4] 1 acc pn cn pc cc).Ok:=by
 have hmem:∀v∈L4 x y,v=cN∨v=kG Nz [] [] 0 x∨v=kG (uJ 1) [] [] 1 y:=λ v hv=>by
  simp[L4] at hv
  exact hv
 refine⟨λ v hv=>?_,λ v hv=>?_,λ v hv=>?_,(λ v hv=>nomatch hv),(λ v hv=>nomatch hv),by show 2<=4;decide,by show 4<=_;decide,by show 3<=_;decide,Nat.zero_le _,Nat.le_refl _,Nat.le_refl _,Nat.le_refl _,Nat.le_refl _,Nat.zero_le _,λ v hv=>?_,by show(0:Int)<=1;decide,(λ i j _ hj=>absurd hj (Nat.not_lt_zero j)),(λ v hv=>nomatch hv)⟩
 ·rcases hmem v hv with rfl|rfl|rfl
  ·exact⟨rfl,rfl,by decide,by decide⟩
  ·exact Iv (by decide) (by decide)
  ·exact Iv (by decide) (by decide)
 ·have z:(0:Int)<=((4:Nat):Int):=by decide
  have z3:(0:Int)<=((3:Nat):Int):=by decide
  rcases hmem v hv with rfl|rfl|rfl
  ·exact⟨z,z,z,(λ r hr=>nomatch hr),z3,z3,z3,iG,iG⟩
  ·exact⟨z,z,z,(λ r hr=>nomatch hr),z3,by show(1:Int)<=((3:Nat):Int);decide,z3,iG,iG⟩
  ·exact⟨z,z,z,(λ r hr=>nomatch hr),by show(2:Int)<=((3:Nat):Int);decide,z3,z3,iG,iG⟩
 ·have hv':v=0∨v=3∨v=4:=by simpa[XS.new] using hv
  show v<=((4:Nat):Int)
  omega
 ·rcases hmem v hv with rfl|rfl|rfl<;>exact Nat.zero_le _
def kinds:List Int:=[8,8,8,9,9,10,11,12,7,8]
theorem Wq{v:Nat}(h:v<10):7<=kinds.getD v 0/\kinds.getD v 0<=12:=by
 have:v=0∨v=1∨v=2∨v=3∨v=4∨v=5∨v=6∨v=7∨v=8∨v=9:=by omega
 rcases this with rfl|rfl|rfl|rfl|rfl|rfl|rfl|rfl|rfl|rfl<;>decide
theorem aq{v:Nat}(h:v<10):∃m:Nat,yS.getD v 0=(m:Int)/\m<18446744073709551616:=by
 have:v=0∨v=1∨v=2∨v=3∨v=4∨v=5∨v=6∨v=7∨v=8∨v=9:=by omega
 refine⟨(yS.getD v 0).toNat,?_⟩
 rcases this with rfl|rfl|rfl|rfl|rfl|rfl|rfl|rfl|rfl|rfl<;>decide
theorem Fz.mono{m B C E B' C' E':Nat}{W:Wd}(h:Fz m B C E W)(hB:B<=B')(hC:C<=C')(hE:E<=E'):Fz m B' C' E' W:=by
 obtain⟨s1,s2,s3⟩:=h.sz
 exact⟨h.z,⟨by omega,by omega,by omega⟩,λ e he=>by have:=h.ex e he;exact⟨this.i,this.k,this.em,this.ht,this.ha,by have:=this.gl;omega⟩,h.t0,h.tr,h.tl,by have:=h.el;omega,h.wr⟩
section
variable{S:List (Nat×Value)}{w0 w:World}{M:List Nat}{H:List (Nat×Obj)}{A F:Fr}{O:List Ow}{ty:TypeId}{pos:String}{af:Array Edge}{gd:Option (Nat×Bool)}{X:Type}{V:X->Value}
theorem cT(nH nO:Nat){φ:X->Prop}{hs:List (Nat×Obj)}{os:List Ow}{hs' H1:X->List (Nat×Obj)}{os' O1:X->List Ow}{Fc F1:X->Fr}{A0:Fr}{f:FuncId}{xs:List Operand}{at_:Array TypeId}{vs:List Value}{dst:Option Nat}
  (hc:∀w,SF w (Ks hs os) hs A0 [] os w->Calls Tryz.prog f ⟨vs⟩ w λ e w'=>∃x,e=.returned (V x)/\φ x/\SF w (Ks hs os) (hs' x) [] (Fc x) (os' x) w')
  (hA:bP A F (O.take nO) A0) (hF1:∀x,φ x->∀f∈F1 x,f.2=[]∨f∈Fc x++F)
  (ha:yU S xs=vs:=by(repeat (first|exact pM _|(apply mK;focus ((conv=>{lhs;whnf});try exact rfl))));first|done|fail) (hp:plain Tryz.prog f=true:=by kernel_rfl)
  (hH:H=H.take nH++hs:=by exact rfl) (hO:O=O.take nO++os:=by exact rfl)
  (hH1:∀x,H.take nH++hs' x=H1 x:=by intro x;simp only[List.take_succ_cons,List.take_zero,List.cons_append,List.nil_append,wH];exact rfl) (hO1:∀x,O.take nO++os' x=O1 x:=by intro x;simp only[List.take_succ_cons,List.take_zero,List.cons_append,List.nil_append,wO];exact rfl) :
  bI Tryz.prog S (SF w0 M H A F O) ⟨dst,.call {callee:=.value (.func f),args:=⟨xs⟩,argTypes:=at_},ty,pos,af,gd⟩ X V (λ x w=>φ x/\SF w0 M (H1 x) A (F1 x) (O1 x) w) :=
 kM (nA hp ha) λ w hw=>(Cf (H':=H.take nH) (O':=O.take nO) hw ((List.Perm.of_eq hH).trans List.perm_append_comm) ((List.Perm.of_eq hO).trans List.perm_append_comm) hA (hc w)).mono λ _ _ ⟨x,he,hx,hs⟩=>⟨x,he,hx,by
  have h2:=(hs.perm (H':=H1 x) (O':=O1 x) (by rw[<- hH1 x];exact List.perm_append_comm) (by rw[<- hO1 x];exact List.perm_append_comm)).eP (hF1 x hx)
  exact h2⟩
end
theorem yV(l:List EX):(lW l).length=l.length:=by simp[lW]
theorem Yn{es:List Nat}{k:Nat}(h:k<es.length):(vV es)[k]?=some (.pointer (some ⟨es.getD k 0,0,none⟩)):=by
 simp[vV,fI,h]
structure WY where
 i:Nat
 pos:Nat
 W:Wd
structure WYI(m:Nat)(y:WY):Prop where
 hi:y.i<=18
 ok:Fz m (8+134217920*y.i) (1048576+y.i) y.i y.W
theorem Ll.Ge{kind:Int}{ts:List dZ}{q:D7}(h:Ll kind ts q)(p:Int):Ll kind ts {q with Ge:=p}:=⟨h.ky,h.mem,h.ro⟩
set_option maxRecDepth 100000 in
set_option maxHeartbeats 4000000 in
theorem Zu{l:List Int}{a:Option Addr}{c:Nat}{w:World}(ha:Go.Ct.Cl w a (aG l))(hl:l.length<=17592186043904) :
  Calls Tryz.prog 8 #[.slice a l.length c] w λ e w'=>∃q:Nat×Nat×Nat×Wd,e=.returned (.pointer (some ⟨q.1,0,none⟩))/\(q.2.2.1<18446744073709551616/\Fz q.2.2.1 2415922570 1048594 18 q.2.2.2)/\SF w [] (wH q.2.2.1 q.1 q.2.1 q.2.2.2) [] (aW q.2.2.2.z.L) (wO q.2.2.2) w':=by
 refine enter Tryz.func8 Tryz.ntmps8 rfl rfl (SF.s1 ha) ?_
 simp only[cO]
 refine cQ ?_;refine J2 ?_;refine aC (Z5 (Fc:=λ _=>[]) (Oc:=λ _=>[]) (hc:=λ w1 hw=>yy)) (λ x10 h10=>?_);refine J1 ?_;refine J0 ?_;refine aC (Z5 (Fc:=λ _=>[]) (hc:=λ w1 hw=>Oe w1)) (λ x11 h11=>?_);refine aB ?_;refine aC (wF (hc:=λ w1 hw=>se (hw.tape dV fin hl))) (λ x13 h13=>?_);refine bG ?_;refine bQ (λ x15=>?_);refine sZ ?_;refine dJ ?_;refine J3 ?_;refine aC (cM (hc:=λ w hs=>Lf hs)) (λ x21 h21=>?_);refine aT (cr (sz:=2) (cs:=qS [⟨3,false⟩]) Dm F5 rfl rfl rfl rfl rfl rfl) (λ x22=>?_);refine Vr ?_;refine aR ?_;refine Gl ?_
 obtain⟨m,em,hm⟩:=aq h13
 refine kZ [5,6,7,8,25,26,27,28,29,30,31,32,33,34,35,36,37,38,39,40,41,42,43,44,45,46,47,48,49,50,51,52,53,54,55,56,57,58,59,60,61,62,63,64,65,66,67,68,69,70,71,72,73,74,75,76,77,78,79,80,81,82,83,84,85,86,87,88,89,90,91,92,93,94,95,96,97,98] (λ y:WY=>[(5,.int .i64 ((y.i:Nat):Int))]) (λ y=>WYI m y) (λ y=>(x10,O4 a l c y.pos)::(x15,mX x11.1 (m:Int) y.W.pt y.W.ts.length y.W.kt y.W.pe (lW y.W.ex).length y.W.ke)::(x11.1,xM y.W.z)::Cm x11.1 y.W.ex) (λ y=>aW y.W.z.L) (λ y=>⟨y.W.pt,qS y.W.ts,y.W.kt,29,2⟩::⟨y.W.pe,vV (lW y.W.ex),y.W.ke,73,1⟩::⟨y.W.z.pn,gR y.W.z.L,y.W.z.cn,77,14⟩::⟨y.W.z.pc,aG y.W.z.cs,y.W.z.cc,62,1⟩::Aq y.W.ex) (λ y=>18-y.i) (⟨0,nD l 0,⟨XS.new (L4 x21.1 x21.2.1) [0,3,4] 1 0 x21.2.1.pn x21.2.1.cn x21.2.2.1 x21.2.2.2,[⟨3,false⟩],some ⟨x22,0,none⟩,1,[],none,0⟩⟩) (⟨by show(0:Nat)<=18;decide,zl _ _ _ _ _ _ _,⟨by show 4<=8+134217920*0;decide,by show 3<=8+134217920*0;decide,by show(1:Int)<=((8+134217920*0:Nat):Int);decide⟩,(λ e he=>nomatch he),by show 0<1;decide,rfl,by show 1<=5;decide,Nat.le_refl _,.new⟩) (λ y f hx=>?_) (hw0:=λ w hw=>by rw[em,List.append_nil] at hw;exact(hw.kE 73 1).perm (List.perm_append_comm (l₁:=[_]) (l₂:=[_,_])) (List.Perm.swap _ _ _))
 dsimp only[fY,List.map,List.cons_append,List.nil_append]
 have hy:=hx
 refine kT ?_;refine Fu ?_
 (refine eF 27 (λ g27=>?_) (λ g27=>?_)<;>refine Ka0 ?_)
 all_goals ((first|refine aH ?_|(refine aF ?_;refine aC (wF (hc:=λ w1 hw=>rm (hw.tape dV fin hl))) (λ x29 h29=>?_)));refine cK ?_;refine aI ?_)
 all_goals
 refine aZ (λ c30=>?_) (λ c30=>?_)
 ·try exact nv c30
  all_goals (refine Kc5 ?_;refine aT ((by exact Fo (λ _=>cE (cs:=aG kinds) Dg F5 rfl rfl rfl rfl rfl))) (λ x33=>?_);refine aB ?_;refine aC (wF (hc:=λ w1 hw=>eJ 10 (hw.tape dV fin hl) (by decide) (by decide))) (λ x35 h35=>?_);refine aE (cA (lst:=kinds) (k:=x35) rf rf fC gB (.new .head) (by omega) (by simp only[kinds,List.length_cons,List.length_nil];omega)) rfl ?_;refine aE (cW (lst:=kinds) (q:=x35) rf gB (.new .head) (by simp only[kinds,List.length_cons,List.length_nil];omega)) rfl ?_;refine gQ ?_)
  all_goals
   refine dW [6,38,39,40,41,42,43,44] (λ q:Int×Nat=>[(6,.int .i64 q.1)]) (λ q=>7<=q.1/\q.1<=12) (λ q=>(x10,O4 a l c q.2)::(x15,mX x11.1 (m:Int) y.W.pt y.W.ts.length y.W.kt y.W.pe (lW y.W.ex).length y.W.ke)::(x11.1,xM y.W.z)::Cm x11.1 y.W.ex) (λ _=>aW y.W.z.L) (λ _=>⟨y.W.pt,qS y.W.ts,y.W.kt,29,2⟩::⟨y.W.pe,vV (lW y.W.ex),y.W.ke,73,1⟩::⟨y.W.z.pn,gR y.W.z.L,y.W.z.cn,77,14⟩::⟨y.W.z.pc,aG y.W.z.cs,y.W.z.cc,62,1⟩::Aq y.W.ex) (by decide) (λ _=>by exact rfl) ?_ (λ q f hx=>?_)
   ·refine aR ?_
    refine xJ ?_;refine lJ ?_;refine aB ?_
    (refine eF 40 (λ g40=>?_) (λ g40=>?_)<;>refine Ka0 ?_)
    all_goals ((first|refine aH ?_|(refine aF ?_;refine aC (wF (hc:=λ w1 hw=>eJ 3 (hw.tape dV fin hl) (by decide) (by decide))) (λ x42 h42=>?_)));refine Kb9 ?_)
    all_goals
    refine aZ (λ c44=>?_) (λ c44=>?_)
    ·try exact nv c44
     all_goals (refine dL ?_;refine J1 ?_)
     all_goals
      refine eN ((8,nD l (nD l y.pos))) ?_ (hw1:=λ w hw=>hw.back (hF:=aV.qL λ f hf=>List.mem_cons_of_mem _ hf))
      ·exact⟨by show(7:Int)<=8;decide,by show(8:Int)<=12;decide⟩
    ·all_goals try (exfalso;omega)
     all_goals refine bA ?_
     all_goals
      refine eN (by first|exact((λ _=>(kinds.getD x35 0,nD l (nD l y.pos))) x42)|exact(kinds.getD x35 0,nD l y.pos)) ?_ (hw1:=λ w hw=>hw.back (hF:=aV.qL λ f hf=>List.mem_cons_of_mem _ hf))
      ·exact Wq (by omega)
   dsimp only[fY,List.map,List.cons_append,List.nil_append]
   have hq:=hx
  all_goals (refine Kd1 ?_;refine aC (cM (hs:=[(x10,O4 a l c q.2),(x15,mX x11.1 (m:Int) y.W.pt y.W.ts.length y.W.kt y.W.pe (lW y.W.ex).length y.W.ke)]) (os:=[⟨y.W.pt,qS y.W.ts,y.W.kt,29,2⟩]) (A0:=[(a,aG l)]) (hc:=λ w hs=>lx q.1 hq hl hy.ok.t0 (by have:=hy.ok.tl;omega) hy.ok.tr hs)) (λ x48 h48=>?_);refine aN (λ x7=>?_);refine J5 ?_;refine aR ?_)
  all_goals
   refine dW [49,50,51,52,53,54,55,56] (λ r:Int×Nat=>[]) (λ r=>True) (λ r=>(x7,.cells ⟨Nt (({x48 with Ge:=r.1}:D7).cl q.1 (m:Int))⟩ 70 (0,0))::(x10,O4 a l c r.2)::(x15,mX x11.1 (m:Int) y.W.pt y.W.ts.length y.W.kt y.W.pe (lW y.W.ex).length y.W.ke)::(x11.1,xM y.W.z)::Cm x11.1 y.W.ex) (λ _=>aW y.W.z.L) (λ _=>⟨y.W.pt,qS y.W.ts,y.W.kt,29,2⟩::⟨y.W.pe,vV (lW y.W.ex),y.W.ke,73,1⟩::⟨y.W.z.pn,gR y.W.z.L,y.W.z.cn,77,14⟩::⟨y.W.z.pc,aG y.W.z.cs,y.W.z.cc,62,1⟩::Aq y.W.ex) (by decide) (λ _=>by exact rfl) ?_ (λ r f hx=>?_)
   ·refine aR ?_
    refine xJ ?_;refine lJ ?_;refine aB ?_
    (refine eF 51 (λ g51=>?_) (λ g51=>?_)<;>refine Ka0 ?_)
    all_goals ((first|refine aH ?_|(refine aF ?_;refine aC (wF (hc:=λ w1 hw=>eJ 3 (hw.tape dV fin hl) (by decide) (by decide))) (λ x53 h53=>?_)));refine Kb9 ?_)
    all_goals
    refine aZ (λ c55=>?_) (λ c55=>?_)
    ·try exact nv c55
     all_goals (refine dL ?_;refine xK ?_)
     all_goals
      refine eN ((0,nD l x48.pos)) ?_ (hw1:=λ w hw=>hw.v4)
      ·trivial
    ·all_goals try (exfalso;omega)
     all_goals refine bA ?_
     all_goals
      refine eN (by first|exact((λ _=>(x48.Ge,nD l x48.pos)) x53)|exact(x48.Ge,x48.pos)) ?_ (hw1:=λ w hw=>hw.v4)
      ·trivial
   dsimp only[fY,List.map,List.cons_append,List.nil_append]
  all_goals refine F4 ?_
  all_goals
   refine dW [8,57,58,59,60,61,62,63,64,65,66,67,68,69] (λ s:Nat×Nat=>[(8,.int .i64 ((s.1:Nat):Int))]) (λ s=>s.1<=1048576) (λ s=>(x7,.cells ⟨Nt (({x48 with Ge:=r.1}:D7).cl q.1 (m:Int))⟩ 70 (0,0))::(x10,O4 a l c s.2)::(x15,mX x11.1 (m:Int) y.W.pt y.W.ts.length y.W.kt y.W.pe (lW y.W.ex).length y.W.ke)::(x11.1,xM y.W.z)::Cm x11.1 y.W.ex) (λ _=>aW y.W.z.L) (λ _=>⟨y.W.pt,qS y.W.ts,y.W.kt,29,2⟩::⟨y.W.pe,vV (lW y.W.ex),y.W.ke,73,1⟩::⟨y.W.z.pn,gR y.W.z.L,y.W.z.cn,77,14⟩::⟨y.W.z.pc,aG y.W.z.cs,y.W.z.cc,62,1⟩::Aq y.W.ex) (by decide) (λ _=>by exact rfl) ?_ (λ s f hx=>?_)
   ·refine aR ?_
    refine xJ ?_;refine dJ ?_;refine Li ?_;refine Fu ?_
    (refine eF 63 (λ g63=>?_) (λ g63=>?_)<;>refine Ka0 ?_)
    all_goals ((first|refine aH ?_|(refine aF ?_;refine aC (wF (hc:=λ w1 hw=>eJ 4 (hw.tape dV fin hl) (by decide) (by decide))) (λ x65 h65=>?_)));refine zN ?_;refine aI ?_)
    all_goals
    refine aZ (λ c67=>?_) (λ c67=>?_)
    ·try exact nv c67
     all_goals (refine xJ ?_;refine aC (wF (hc:=λ w1 hw=>eJ 16 (hw.tape dV fin hl) (by decide) (by decide))) (λ x69 h69=>?_);refine J1 ?_)
     all_goals
      refine eN ((x69,nD l (nD l r.2))) ?_ (hw1:=λ w hw=>hw.v4)
      ·show x69<=1048576;omega
    ·all_goals try (exfalso;omega)
     all_goals refine bA ?_
     all_goals
      refine eN (by first|exact((λ _=>(1048576,nD l r.2)) x65)|exact(1048576,r.2)) ?_ (hw1:=λ w hw=>hw.v4)
      ·exact Nat.le_refl 1048576
   dsimp only[fY,List.map,List.cons_append,List.nil_append]
   have hs1:=hx
  all_goals (refine Kb4 ?_;refine aB ?_;refine aC (cT 2 0 (hs:=wH m x15 x11.1 y.W) (os:=wO y.W) (A0:=aW y.W.z.L) (F1:=λ x:Wd×List aL=>aW x.1.z.L) (hc:=λ w hs=>jv (q:={x48 with Ge:=r.1}) (kind:=q.1) s.1 hs1 (by omega) (by omega) hm hy.ok (by omega) hq (h48.Ge _) (λ f hf=>hf) hs) (hA:=bP.of λ f hf=>.inr (.inr (.inl hf))) (hF1:=λ x hx f hf=>by rw[hx.2,dB] at hf;exact .inr ((List.mem_append.1 hf).elim (λ h=>List.mem_append_right _ h) (λ h=>List.mem_append_left _ h)))) (λ x73 h73=>?_);refine aI ?_)
  all_goals
   refine dW [74,75,76,77,78,79,80,81,82,83,84,85,86,87,88,89,90,91,92,93,94,95,96,97,98] (λ u:Nat×Wd=>[]) (λ u=>Fz m (8+134217920*(y.i+1)) (1048576+(y.i+1)) (y.i+1) u.2) (λ u=>(x7,.cells ⟨Nt (({x48 with Ge:=r.1}:D7).cl q.1 (m:Int))⟩ 70 (0,0))::(x10,O4 a l c u.1)::(x15,mX x11.1 (m:Int) u.2.pt u.2.ts.length u.2.kt u.2.pe (lW u.2.ex).length u.2.ke)::(x11.1,xM u.2.z)::Cm x11.1 u.2.ex) (λ u=>aW u.2.z.L) (λ u=>⟨u.2.pt,qS u.2.ts,u.2.kt,29,2⟩::⟨u.2.pe,vV (lW u.2.ex),u.2.ke,73,1⟩::⟨u.2.z.pn,gR u.2.z.L,u.2.z.cn,77,14⟩::⟨u.2.z.pc,aG u.2.z.cs,u.2.z.cc,62,1⟩::Aq u.2.ex) (by decide) (λ _=>by exact rfl) ?_ (λ u f hx=>?_)
   ·refine aR ?_
    refine xJ ?_;refine dJ ?_;refine Li ?_;refine wG ?_;refine aB ?_
    (refine eF 80 (λ g80=>?_) (λ g80=>?_)<;>refine Ka0 ?_)
    all_goals ((first|refine aH ?_|(refine aF ?_;refine aC (wF (hc:=λ w1 hw=>eJ 3 (hw.tape dV fin hl) (by decide) (by decide))) (λ x82 h82=>?_)));refine zN ?_;refine aI ?_)
    all_goals
    refine aZ (λ c84=>?_) (λ c84=>?_)
    ·try exact nv c84
     all_goals (refine eG [(0,[]),(1,[]),(2,[]),(3,[]),(4,[]),(5,[]),(6,[]),(7,[]),(8,[]),(9,[]),(10,[3]),(11,[]),(12,[]),(13,[])] ?_;refine U1 ?_;refine ud ?_;refine lN ?_;refine bC (i:=10) (hq:=(wF (hc:=λ w1 hw=>eJ ((lW x73.1.ex).length:Nat) (hw.tape dV fin hl) (by omega) (by rw[yV];have:=h73.1.el;omega)))) (h:=λ x95 h95=>?_);refine bJ (i:=11) (hq:=(X4 (cs:=vV (lW x73.1.ex)) (k:=x95) rf rf fC gB (.own (.tail .head)) (by omega) (by rw[xI];omega))) (h:=?_);refine bJ (i:=12) (hq:=(Zz (cs:=vV (lW x73.1.ex)) (v:=.pointer (some ⟨(lW x73.1.ex).getD x95 0,0,none⟩)) rf gB (.own (.tail .head)) (Yn (by omega)))) (h:=?_);refine bC (i:=13) (hq:=(cT 2 0 (hs:=wH m x15 x11.1 x73.1) (os:=wO x73.1) (A0:=aW x73.1.z.L) (F1:=λ x:Wd×List aL=>aW x.1.z.L) (hc:=λ w hs=>Wj (i:=x95) (by rw[<- yV];omega) (by omega) (by omega) hm h73.1 (λ f hf=>hf) hs) (hA:=bP.of λ f hf=>.inr (.inr (.inl hf))) (hF1:=λ x hx f hf=>by rw[hx.2.2,dB] at hf;exact .inr ((List.mem_append.1 hf).elim (λ h=>List.mem_append_right _ h) (λ h=>List.mem_append_left _ h))))) (h:=λ x98 h98=>?_);refine dS ?_)
     all_goals
      refine eN ((nD l (nD l s.2),x98.1)) ?_ (hw1:=λ w hw=>hw.v4)
      ·exact h98.1.mono (by omega) (by omega) (Nat.le_refl _)
    ·all_goals try (exfalso;omega)
     all_goals refine bA ?_
     all_goals
      refine eN (by first|exact((λ _=>(nD l s.2,x73.1)) x82)|exact(s.2,x73.1)) ?_ (hw1:=λ w hw=>hw.v4)
      ·exact h73.1.mono (by omega) (by omega) (Nat.le_refl _)
   dsimp only[fY,List.map,List.cons_append,List.nil_append]
  all_goals (refine Kd0 ?_)
  all_goals
   refine fV (⟨y.i+1,u.1,u.2⟩) ?_ (hw1:=λ w hw=>hw.v4)
   ·exact⟨by show y.i+1<=18;omega,hx⟩
 ·all_goals try (exfalso;omega)
  all_goals (refine bF rfl ?_;refine Ka5 ?_)
  all_goals
   refine aQ Tryz.results8 (λ w hw=>?_)
   exact⟨(x15,x11.1,m,y.W),rfl,⟨hm,hy.ok.mono (by have:=hy.hi;omega) (by have:=hy.hi;omega) hy.hi⟩,hw.aS (hH:=List.Sublist.cons _ (List.Sublist.refl _)) (hF:=by exact aV.all) (hO:=List.Sublist.refl _)⟩
end

/- Worlds: Finish. -/
section
open Go Go.RowKit Go.Ct
def Nq(ex:List EX)(i:Nat):Bool:=(ex.map EX.dn).getD i true
def rE(ex:List EX)(i:Nat):Tr:=(ex.map EX.R).getD i .stuck
section
variable{m B C E bw bm:Nat}{D:List Nat}{A:Fr}{w:World}{H:ByteArray->Nat}
theorem xF{α β:Type}(f:α->β)(l1 l2:List α)(e:α)(d:β):((l1++e::l2).map f).getD l1.length d=f e:=by simp
theorem vl{α β:Type}(f:α->β)(l1 l2:List α)(e e':α)(d:β){k:Nat}(hk:k≠l1.length):((l1++e::l2).map f).getD k d=((l1++e'::l2).map f).getD k d:=by
 simp only[List.map_append,List.map_cons,fI]
 by_cases h:k<l1.length
 ·rw[List.getElem?_append_left (by simpa using h),List.getElem?_append_left (by simpa using h)]
 ·rw[List.getElem?_append_right (by simpa using h),List.getElem?_append_right (by simpa using h)]
  obtain⟨j,hj⟩:∃j,k-(l1.map f).length=j+1:=⟨k-l1.length-1,by rw[List.length_map];omega⟩
  rw[hj]
  rfl
theorem Yv{W:Wd}{i:Nat}(hi:i<W.ex.length)(hs:SF w D (wH m bw bm W) A [] (wO W) w) :
  Calls Tryz.prog 39 #[.pointer (some ⟨(lW W.ex).getD i 0,0,none⟩)] w λ e w'=>∃q:Unit,e=.returned (.bool (Nq W.ex i))/\True/\SF w D (wH m bw bm W) [] [] (wO W) w':=by
 obtain⟨l1,e,l2,hl,hi1⟩:=E9 hi
 have hb:(lW W.ex).getD i 0=e.b:=by rw[hl,<- hi1];exact xF _ _ _ _ _
 have hd:Nq W.ex i=e.dn:=by unfold Nq;rw[hl,<- hi1];exact xF _ _ _ _ _
 rw[hb,hd]
 have pH:=qc (m:=m) (bw:=bw) (bm:=bm) hl
 have pO:=sb hl
 have key:=Cf (P:=Tryz.prog) (f:=39) (vs := #[.pointer (some ⟨e.b,0,none⟩)]) (V:=λ _:Unit=>.bool e.dn) (φ:=λ _=>True) (hs:=xH e.k e.b bm (XS.wm e.x W.z) e.dn e.rs) (os:=xW (XS.wm e.x W.z)) (hs':=λ _=>xH e.k e.b bm (XS.wm e.x W.z) e.dn e.rs) (os':=λ _=>xW (XS.wm e.x W.z)) (Fc:=λ _=>[]) (A0:=[]) hs pH pO bP.nil (λ h=>Pz h)
 refine key.mono λ e w' ⟨q,e1,h1,hw⟩=>⟨q,e1,h1,?_⟩
 rw[List.append_nil] at hw
 exact hw.vr.perm pH pO
structure FX where
 i:Nat
 c:Nat
 z:XS
 ex:List EX
 N:List aL
structure l8(m B C E:Nat)(W:Wd)(y:FX):Prop where
 ok:Fz m (B+128*(8001*y.i+y.c)) (C+(8001*y.i+y.c)) E (W.go y.z y.ex)
 L:y.z.L=W.z.L++y.N
 b:lW y.ex=lW W.ex
 dn:∀k,k<y.i->Nq y.ex k=true
structure u9(m B C E:Nat)(W:Wd)(y:FX):Prop extends l8 m B C E W y where
 lt:y.i<y.ex.length
 c:y.c<=8000
 fin:Nq y.ex y.i=true∨Fin (H8 m) (rE y.ex y.i) y.z.mm (8000-y.c)
theorem l8.len{W:Wd}{y:FX}(h:l8 m B C E W y):y.ex.length=W.ex.length:=by
 have:=congrArg List.length h.b
 simpa[lW] using this
theorem l8.begin{W:Wd}{y:FX}(h:l8 m B C E W y)(hc:y.c=0)(hi:y.i<y.ex.length):u9 m B C E W y:=by
 refine⟨h,hi,by omega,.inr ?_⟩
 obtain⟨l1,e,l2,hl,hi1⟩:=E9 hi
 have hR:rE y.ex y.i=e.R:=by unfold rE;rw[hl,<- hi1];exact xF _ _ _ _ _
 have w1:WR (H8 m) m y.z.mm W.ts (y.ex.map EX.R):=h.ok.wr
 rw[hl,List.map_append,List.map_cons] at w1
 rw[hR,hc]
 exact(w1.perm List.perm_middle).fin
theorem u9.step{W:Wd}{y:FX}{q:XS×List EX×List aL}(h:u9 m B C E W y)(hd:Nq y.ex y.i=false)
  (hq:Fz m (B+128*(8001*y.i+y.c)+128) (C+(8001*y.i+y.c)+1) E ((W.go y.z y.ex).go q.1 q.2.1)/\q.1.L=(W.go y.z y.ex).z.L++q.2.2/\StX (W.go y.z y.ex) y.i q.1 q.2.1):u9 m B C E W ⟨y.i,y.c+1,q.1,q.2.1,y.N++q.2.2⟩:=by
 obtain⟨ok,hL,l1,e,e',l2,hl,hi1,hl',hb,hst⟩:=hq
 have hl:y.ex=l1++e::l2:=hl
 have e1:Nq y.ex y.i=e.dn:=by unfold Nq;rw[hl,<- hi1];exact xF _ _ _ _ _
 have e2:rE y.ex y.i=e.R:=by unfold rE;rw[hl,<- hi1];exact xF _ _ _ _ _
 have e3:Nq q.2.1 y.i=e'.dn:=by unfold Nq;rw[hl',<- hi1];exact xF _ _ _ _ _
 have e4:rE q.2.1 y.i=e'.R:=by unfold rE;rw[hl',<- hi1];exact xF _ _ _ _ _
 have hfin:=h.fin.resolve_left (by rw[hd];decide)
 rw[e2] at hfin
 rw[e1] at hd
 have he:vv m (C+(8001*y.i+y.c)) y.z e:=h.ok.ex e (by show e∈y.ex;rw[hl];simp)
 have hacc:e.R.acc=some (XS.wm e.x y.z).nx:=by
  rcases he.i.Vt with⟨h1,_⟩|⟨_,h1⟩
  ·rw[hd] at h1;cases h1
  ·exact h1
 have hpos:=hfin.pos hacc
 rcases hst with⟨h1,_⟩|⟨_,j,hj,hj1,hrc⟩
 ·rw[hd] at h1;cases h1
 refine⟨⟨ok.mono (by show _<=B+128*(8001*y.i+(y.c+1));omega) (by show _<=C+(8001*y.i+(y.c+1));omega) (Nat.le_refl _),by rw[hL];show y.z.L++q.2.2=_;rw[h.L,List.append_assoc],?_,λ k hk=>?_⟩,?_,by show y.c+1<=8000;omega,?_⟩
 ·show lW q.2.1=_
  rw[<- h.b,hl',hl]
  simp[lW,hb]
 ·have hk:k<y.i:=hk
  have:=h.dn k hk
  show Nq q.2.1 k=true
  unfold Nq at this ⊢
  rw[hl',vl EX.dn l1 l2 e' e true (by omega),<- hl]
  exact this
 ·show y.i<q.2.1.length
  rw[hl',<- hi1]
  simp
 ·show Nq q.2.1 y.i=true∨Fin (H8 m) (rE q.2.1 y.i) q.1.mm (8000-(y.c+1))
  rw[e3,e4]
  cases hdn:e'.dn with
  | true=>exact .inl rfl
  | false =>
   obtain⟨m',em,hf⟩:=hfin.rc hrc
   rw[hj1 hdn] at em
   exact .inr (by rw[show 8000-(y.c+1)=m' by omega];exact hf)
theorem u9.next{W:Wd}{y:FX}(h:u9 m B C E W y)(hd:Nq y.ex y.i=true):l8 m B C E W ⟨y.i+1,0,y.z,y.ex,y.N⟩ :=
 ⟨h.ok.mono (by have:=h.c;show _<=B+128*(8001*(y.i+1)+0);omega) (by have:=h.c;show _<=C+(8001*(y.i+1)+0);omega) (Nat.le_refl _),h.L,h.b,λ k hk=>by
  by_cases e:k=y.i
  ·rw[e];exact hd
  ·exact h.dn k (by have:k<y.i+1:=hk;omega)⟩
theorem WR.S6{s:Mm}{ts:List dZ}:∀{rs:List Tr},WR H m s ts rs->(∀t∈rs,∃r,t=.done r)->WR H m s ts []
 | [],h,_=>h
 | t::rs,h,hd=>by
  obtain⟨r,e⟩:=hd t (List.mem_cons_self ..)
  subst e
  exact WR.S6 h.drop λ t ht=>hd t (List.mem_cons_of_mem _ ht)
theorem l8.end{W:Wd}{y:FX}(h:l8 m B C E W y)(hi:y.ex.length<=y.i)(hiE:y.i<=E)(hc:y.c=0):Fz m (B+1024128*E) (C+8001*E) 0 ⟨y.z,W.ts,W.pt,W.kt,[],none,0⟩:=by
 have ok:=h.ok.mono (B':=B+1024128*E) (C':=C+8001*E) (by rw[hc];omega) (by rw[hc];omega) (Nat.le_refl _)
 refine⟨ok.z,ok.sz,(λ e he=>nomatch he),ok.t0,ok.tr,ok.tl,Nat.le_refl _,WR.S6 ok.wr λ t ht=>?_⟩
 obtain⟨e,he,rfl⟩:=List.mem_map.1 ht
 have hk:=ok.ex e he
 obtain⟨k,hk1,hk2⟩:=List.getElem_of_mem he
 have hd:Nq y.ex k=true:=h.dn k (by have:k<y.ex.length:=hk1;omega)
 have hd2:e.dn=true:=by
  unfold Nq at hd
  rw[fI,List.getElem?_map,List.getElem?_eq_getElem hk1] at hd
  rw[<- hk2];exact hd
 rcases hk.i.Vt with⟨_,h2⟩|⟨h1,_⟩
 ·exact⟨e.rs,h2⟩
 ·rw[hd2] at h1;cases h1
set_option maxRecDepth 100000 in
set_option maxHeartbeats 2000000 in
theorem Z9{W:Wd}(hE:E<=1000)(hC:C<=100000000)(hB:B<=10000000000)(hm:m<18446744073709551616)(hW:Fz m B C E W)(hA:∀f∈aW W.z.L,f∈A)(hs:SF w D (wH m bw bm W) A [] (wO W) w) :
  Calls Tryz.prog 12 #[.pointer (some ⟨bw,0,none⟩)] w λ e w'=>∃r:XS×List aL,e=.returned (.tuple #[])/\(Fz m (B+1024128*E) (C+8001*E) 0 ⟨r.1,W.ts,W.pt,W.kt,[],none,0⟩/\r.1.L=W.z.L++r.2)/\SF w D (wH m bw bm ⟨r.1,W.ts,W.pt,W.kt,[],none,0⟩) [] (aW r.2) (wO ⟨r.1,W.ts,W.pt,W.kt,[],none,0⟩) w':=by
 have hel:=hW.el
 have hbl:=yV W.ex
 refine enter Tryz.func12 Tryz.ntmps12 rfl rfl hs ?_
 simp only[cO]
 refine aR ?_;refine mV ?_;refine Kb5 ?_
 refine kZ [3,9,10,11,12,13,14,15,16,17,18] (λ y:FX=>[(9,.int .i64 ((y.i:Nat):Int))]) (λ y=>l8 m B C E W y/\y.i<=E/\y.c=0) (λ y=>wH m bw bm (W.go y.z y.ex)) (λ y=>aW y.N) (λ y=>wO (W.go y.z y.ex)) (λ y=>W.ex.length-y.i) (⟨0,0,W.z,W.ex,[]⟩) (⟨⟨hW,by simp,rfl,λ k hk=>absurd hk (Nat.not_lt_zero k)⟩,Nat.zero_le _,rfl⟩) (λ y f hx=>?_)
 dsimp only[fY,List.map,List.cons_append,List.nil_append]
 obtain⟨hy,hyE,hyc⟩:=hx
 have hlen:=hy.len
 refine Kb3 ?_
 refine aZ (λ c10=>?_) (λ c10=>?_)
 ·try (exfalso;omega)
  refine Kc5 ?_;refine aE (X4 (cs:=vV (lW y.ex)) (k:=y.i) rf rf fC gB (.own (.tail .head)) (by omega) (by rw[xI,yV,hy.len];omega)) rfl ?_;refine aE (Zz (cs:=vV (lW y.ex)) (v:=.pointer (some ⟨(lW y.ex).getD y.i 0,0,none⟩)) rf gB (.own (.tail .head)) (Yn (by rw[yV,hy.len];omega))) rfl ?_;refine J1 ?_;refine bW ?_
  refine kZ [13,14,15,16,17] (λ z:FX=>[]) (λ z=>u9 m B C E W z/\z.i=y.i) (λ z=>wH m bw bm (W.go z.z z.ex)) (λ z=>aW z.N) (λ z=>wO (W.go z.z z.ex)) (λ z=>8001-z.c) (y) (⟨hy.begin hyc (by omega),rfl⟩) (λ z f hx=>?_) (hw0:=λ w hw=>hw.v4)
  dsimp only[fY,List.map,List.cons_append,List.nil_append]
  obtain⟨hz,hzi⟩:=hx
  have hzc:=hz.c
  have hyi:y.i<W.ex.length:=by omega
  have hzl:=hz.len
  refine kT ?_;refine aC (cT 0 0 (vs:=[.pointer (some ⟨(lW y.ex).getD y.i 0,0,none⟩)]) (hs:=wH m bw bm (W.go z.z z.ex)) (os:=wO (W.go z.z z.ex)) (A0:=[]) (F1:=λ _:Unit=>aW z.N) (hc:=λ w hs=>by rw[show y.i=z.i from hzi.symm,show lW y.ex=lW z.ex from hy.b.trans hz.b.symm];exact Yv (W:=W.go z.z z.ex) (i:=z.i) hz.lt hs) (hA:=bP.nil) (hF1:=λ _ _ f hf=>.inr (List.mem_append_right _ hf))) (λ x14 h14=>?_);refine mJ ?_
  refine aZ (λ c15=>?_) (λ c15=>?_)
  ·try (exfalso;omega)
   refine bA ?_;refine bW ?_;refine xJ ?_;refine aC (cT 0 0 (vs:=[.pointer (some ⟨(lW y.ex).getD y.i 0,0,none⟩)]) (hs:=wH m bw bm (W.go z.z z.ex)) (os:=wO (W.go z.z z.ex)) (A0:=aW z.z.L) (F1:=λ x:XS×List EX×List aL=>aW (z.N++x.2.2)) (hc:=λ w hs=>by rw[show y.i=z.i from hzi.symm,show lW y.ex=lW z.ex from hy.b.trans hz.b.symm];exact Nj (W:=W.go z.z z.ex) (i:=z.i) hz.lt (by omega) (by omega) hm hz.ok (λ f hf=>hf) hs) (hA:=bP.of λ f hf=>by rw[hz.L,dB] at hf;exact(List.mem_append.1 hf).elim (λ h=>.inr (.inl (hA f h))) (λ h=>.inr (.inr (.inl h)))) (hF1:=λ x hx f hf=>by rw[dB] at hf;exact .inr ((List.mem_append.1 hf).elim (λ h=>List.mem_append_right _ h) (λ h=>List.mem_append_left _ h)))) (λ x17 h17=>?_);refine aI ?_;refine eX ?_
   refine fV (⟨z.i,z.c+1,x17.1,x17.2.1,z.N++x17.2.2⟩) ?_ (hw1:=λ w hw=>hw.v4)
   ·exact⟨hz.step (by simpa using c15) h17,hzi⟩
  ·try (exfalso;omega)
   have hzn:=hz.next (by simpa using c15)
   refine Uc ?_;refine Ka3 ?_
   refine fV (⟨y.i+1,0,z.z,z.ex,z.N⟩) ?_ (hw1:=λ w hw=>hw.v4)
   ·exact⟨by rw[hzi] at hzn;exact hzn,by show y.i+1<=E;omega,rfl⟩
 ·try (exfalso;omega)
  refine bF rfl ?_;refine xJ ?_;refine Vr ?_
  refine Cd Tryz.results12 (λ w hw=>?_)
  have hw:=(hw.kE 73 1).perm (List.Perm.refl _) (List.Perm.swap _ _ _)
  exact⟨(y.z,y.N),rfl,⟨hy.end (by rw[hy.len];omega) hyE hyc,hy.L⟩,hw.aS (hH:=by exact .cons_cons _ (.cons_cons _ (List.nil_sublist _))) (hF:=by exact aV.all) (hO:=by exact .cons_cons _ (.cons_cons _ (.cons _ (.cons_cons _ (.cons_cons _ (List.nil_sublist _))))))⟩
end
end

/- ShapeReached: the walk (awake is still a premise of this lemma). -/
section
open Go Go.RowKit Go.Ct
abbrev zWS(W:Wd)(z:XS):Wd:=⟨z,W.ts,W.pt,W.kt,[],none,0⟩
set_option maxRecDepth 100000 in
set_option maxHeartbeats 1600000 in
theorem Fe(hAw:∀w:World,Go.Ct.Cl w (some ⟨0,0,none⟩) (oV iS)->Calls Tryz.prog 10 #[] w λ e w'=>e=.returned (.bool true)/\St w [] [] w'){l:List Int}{a:Option Addr}{c:Nat}{w:World}(h1:Go.Ct.Cl w a (aG l))(hl:l.length<=17592186043904)(hT:Go.Ct.Cl w (some ⟨0,0,none⟩) (oV iS)) :
  Calls Tryz.prog 4 #[.slice a l.length c] w λ e w'=>e=.returned (.bool true)/\St w [] [] w':=by
 refine enter Tryz.func4 Tryz.ntmps4 rfl rfl (SF.s2 h1 hT) ?_
 simp only[cO]
 refine cQ ?_;refine J2 ?_;refine aC (Z5 (Hc:=λ q:Nat×Nat×Nat×Wd=>wH q.2.2.1 q.1 q.2.1 q.2.2.2) (H1:=λ q=>(q.1,mX q.2.1 (q.2.2.1:Int) q.2.2.2.pt q.2.2.2.ts.length q.2.2.2.kt q.2.2.2.pe (lW q.2.2.2.ex).length q.2.2.2.ke)::(q.2.1,xM q.2.2.2.z)::Cm q.2.1 q.2.2.2.ex) (Fc:=λ q=>aW q.2.2.2.z.L) (F1:=λ q=>aW q.2.2.2.z.L) (Oc:=λ q=>wO q.2.2.2) (O1:=λ q=>⟨q.2.2.2.pt,qS q.2.2.2.ts,q.2.2.2.kt,29,2⟩::⟨q.2.2.2.pe,vV (lW q.2.2.2.ex),q.2.2.2.ke,73,1⟩::⟨q.2.2.2.z.pn,gR q.2.2.2.z.L,q.2.2.2.z.cn,77,14⟩::⟨q.2.2.2.z.pc,aG q.2.2.2.z.cs,q.2.2.2.z.cc,62,1⟩::Aq q.2.2.2.ex) (hH1:=λ q=>List.append_nil _) (hF1:=λ q=>List.append_nil _) (hO1:=λ q=>List.append_nil _) (hc:=λ w1 hw=>Zu (hw.cl (.bM .head)) hl)) (λ x9 h9=>?_)
 have hm:=h9.1
 have hW:=h9.2
 have htl:=hW.tl
 have s1:x9.2.2.2.z.L.length<=2415922570:=hW.sz.1
 have s2:x9.2.2.2.z.cs.length<=2415922570:=hW.sz.2.1
 refine gQ ?_;refine mV ?_;refine Kb5 ?_
 refine kZ [2,5,15,16,17,18,19,20,21,22,23,24,25,26,27,28,29,30,31,32,33] (λ y:Nat=>[(15,.int .i64 ((y:Nat):Int))]) (λ y=>y<=x9.2.2.2.ts.length) (λ _=>(x9.1,mX x9.2.1 (x9.2.2.1:Int) x9.2.2.2.pt x9.2.2.2.ts.length x9.2.2.2.kt x9.2.2.2.pe (lW x9.2.2.2.ex).length x9.2.2.2.ke)::(x9.2.1,xM x9.2.2.2.z)::Cm x9.2.1 x9.2.2.2.ex) (λ _=>aW x9.2.2.2.z.L) (λ _=>⟨x9.2.2.2.pt,qS x9.2.2.2.ts,x9.2.2.2.kt,29,2⟩::⟨x9.2.2.2.pe,vV (lW x9.2.2.2.ex),x9.2.2.2.ke,73,1⟩::⟨x9.2.2.2.z.pn,gR x9.2.2.2.z.L,x9.2.2.2.z.cn,77,14⟩::⟨x9.2.2.2.z.pc,aG x9.2.2.2.z.cs,x9.2.2.2.z.cc,62,1⟩::Aq x9.2.2.2.ex) (λ y=>x9.2.2.2.ts.length-y) (0) (Nat.zero_le _) (λ y f hx=>?_) (hw0:=λ w hw=>hw.v4)
 dsimp only[fY,List.map,List.cons_append,List.nil_append]
 refine Kb3 ?_
 refine aZ (λ c16=>?_) (λ c16=>?_)
 ·try (first|contradiction|(exfalso;omega))
  have htm:=yH (ts:=x9.2.2.2.ts) (j:=y) (by omega)
  have hrt:=hW.root (by decide) htm
  obtain⟨r,il,hk⟩:=Lc hW htm (by omega)
  refine Kc5 ?_;refine aE (Qh (cs:=qS x9.2.2.2.ts) (k:=y) rf rf fC fX (.own .head) (by omega) (by rw[lV];omega)) rfl ?_;refine aE (I6 (ts:=x9.2.2.2.ts) (q:=y) rf fX (.own .head) (by omega)) rfl ?_;refine aN (λ x5=>?_);refine J5 ?_;refine aR ?_;refine fJ [0,1,2,3,4,5,6,7,8,9,10,11,12,13] ?_;refine U1 ?_;refine J4 ?_;refine bJ (i:=6) (hq:=(aK (k:=3) rf dV fX (by simp only[List.drop_zero,List.take_succ_cons,List.take_zero];exact rfl) rfl)) (h:=?_);refine bO ?_;refine U1 ?_;refine cY (i:=12) (hq:=(cV (v:=.int .i64 0) (hc:=λ w1 hw=>Ln hk (hw.vY (.inr (.inr (.inr ⟨_,.tail _ (.tail _ (.head _)),rfl,rfl⟩))) (.inr (.inr (.inr ⟨_,.tail _ (.tail _ (.tail _ (.head _))),rfl,rfl⟩))) (λ f hf=>.inr (.inr (.inl hf))) hW.z.fit) (hw.cl (.bM (.tail .head))) (Cg hW.z) (by omega) (SF.qg hw) hm hrt))) (h:=λ x31=>?_);refine Bl ?_;refine dS ?_
  refine aZ (λ c32=>?_) (λ c32=>?_)
  ·exact nv c32
  ·try (first|contradiction|(exfalso;omega))
   refine Kc1 ?_
   refine fV (y+1) ?_ (hw1:=λ w hw=>hw.v4)
   ·(show y+1<=_;omega)
 ·try (first|contradiction|(exfalso;omega))
  refine bF rfl ?_;refine J2 ?_;refine aC (cT 0 0 (V:=λ _:XS×List aL=>.tuple #[]) (hs:=wH x9.2.2.1 x9.1 x9.2.1 x9.2.2.2) (os:=wO x9.2.2.2) (A0:=aW x9.2.2.2.z.L) (H1:=λ r:XS×List aL=>[(x9.1,mX x9.2.1 (x9.2.2.1:Int) x9.2.2.2.pt x9.2.2.2.ts.length x9.2.2.2.kt none 0 0),(x9.2.1,xM r.1)]) (O1:=λ r=>[⟨x9.2.2.2.pt,qS x9.2.2.2.ts,x9.2.2.2.kt,29,2⟩,⟨none,vV [],0,73,1⟩,⟨r.1.pn,gR r.1.L,r.1.cn,77,14⟩,⟨r.1.pc,aG r.1.cs,r.1.cc,62,1⟩]) (F1:=λ r=>aW r.1.L) (hc:=λ w hs=>Z9 (by decide) (by decide) (by decide) hm hW (λ f hf=>hf) hs) (hA:=bP.of λ f hf=>.inr (.inr (.inl hf))) (hF1:=λ r hr f hf=>by rw[hr.2,dB] at hf;exact .inr ((List.mem_append.1 hf).elim (λ h=>List.mem_append_right _ h) (λ h=>List.mem_append_left _ h)))) (λ x35 h35=>?_)
  have hZ:Fz x9.2.2.1 2434356874 1192612 0 (zWS x9.2.2.2 x35.1):=h35.1
  have s3:x35.1.L.length<=2434356874:=hZ.sz.1
  have s4:x35.1.cs.length<=2434356874:=hZ.sz.2.1
  obtain⟨σ,hq⟩:=WR.rest (show WR (H8 x9.2.2.1) x9.2.2.1 x35.1.mm x9.2.2.2.ts [] from hZ.wr)
  refine Sx ?_;refine mV ?_;refine Kb5 ?_
  refine kZ [2,7,41,42,43,44,45,46,47,48,49,50,51,52,53,54,55,56,57,58,59,60,61,62,63,64,65,66,67,68,69,70,71] (λ y:Nat=>[(41,.int .i64 ((y:Nat):Int))]) (λ y=>y<=x9.2.2.2.ts.length) (λ _=>[(x9.1,mX x9.2.1 (x9.2.2.1:Int) x9.2.2.2.pt x9.2.2.2.ts.length x9.2.2.2.kt none 0 0),(x9.2.1,xM x35.1)]) (λ _=>aW x35.1.L) (λ _=>[⟨x9.2.2.2.pt,qS x9.2.2.2.ts,x9.2.2.2.kt,29,2⟩,⟨none,vV [],0,73,1⟩,⟨x35.1.pn,gR x35.1.L,x35.1.cn,77,14⟩,⟨x35.1.pc,aG x35.1.cs,x35.1.cc,62,1⟩]) (λ y=>x9.2.2.2.ts.length-y) (0) (Nat.zero_le _) (λ y f hx=>?_) (hw0:=λ w hw=>hw.v4)
  dsimp only[fY,List.map,List.cons_append,List.nil_append]
  refine Kb3 ?_
  refine aZ (λ c42=>?_) (λ c42=>?_)
  ·try (first|contradiction|(exfalso;omega))
   have htm:=yH (ts:=x9.2.2.2.ts) (j:=y) (by omega)
   have hrt:=hZ.root (by decide) htm
   obtain⟨r,il,hk⟩:=Lc hZ htm (by show x35.1.L.length<=_;omega)
   have hkz:z7 x9.2.2.1 x35.1 (x9.2.2.2.ts.getD y ⟨0,false⟩) r il:=hk
   refine Kc5 ?_;refine aE (Qh (cs:=qS x9.2.2.2.ts) (k:=y) rf rf fC fX (.own .head) (by omega) (by rw[lV];omega)) rfl ?_;refine aE (I6 (ts:=x9.2.2.2.ts) (q:=y) rf fX (.own .head) (by omega)) rfl ?_;refine aN (λ x7=>?_);refine J5 ?_;refine aR ?_;refine fJ [0,1,2,3,4,5,6,7,8,9,10,11,12,13,14,15,16,17,18,19,20,21,22,23,24,25] ?_;refine U1 ?_;refine J4 ?_;refine bJ (i:=6) (hq:=(aK (k:=3) rf dV fX (by simp only[List.drop_zero,List.take_succ_cons,List.take_zero];exact rfl) rfl)) (h:=?_);refine bO ?_;refine U1 ?_;refine cY (i:=12) (hq:=(cV (v:=.int .i64 0) (hc:=λ w1 hw=>Ln hkz (hw.vY (.inr (.inr (.inr ⟨_,.tail _ (.tail _ (.head _)),rfl,rfl⟩))) (.inr (.inr (.inr ⟨_,.tail _ (.tail _ (.tail _ (.head _))),rfl,rfl⟩))) (λ f hf=>.inr (.inr (.inl hf))) hZ.z.fit) (hw.cl (.bM (.tail .head))) (Cg hZ.z) (by omega) (SF.qg hw) hm hrt))) (h:=λ x57=>?_);refine Bl ?_;refine aU ?_
   (refine aU ?_)
   refine uj ?_;((refine kB ?_));((refine aP ?_));((refine bJ (i:=21) (hq:=(aK (k:=3) rf dV fX (by simp only[List.drop_zero,List.take_succ_cons,List.take_zero];exact rfl) rfl)) (h:=?_)));((refine bO ?_));((refine cY (i:=23) (hq:=(cV (v:=.bool true) (hc:=λ w1 hw=>V8 hq htm hkz (hw.vY (.inr (.inr (.inr ⟨_,.tail _ (.tail _ (.head _)),rfl,rfl⟩))) (.inr (.inr (.inr ⟨_,.tail _ (.tail _ (.tail _ (.head _))),rfl,rfl⟩))) (λ f hf=>.inr (.inr (.inl hf))) hZ.z.fit) (Cg hZ.z) (by omega) (SF.qg hw)))) (h:=λ x68=>?_)));((refine L3 ?_));refine iW ?_;refine dS ?_
   refine aZ (λ c70=>?_) (λ c70=>?_)
   ·exact nv c70
   ·try (first|contradiction|(exfalso;omega))
    refine Kc1 ?_
    refine fV (y+1) ?_ (hw1:=λ w hw=>hw.v4)
    ·(show y+1<=_;omega)
  ·try (first|contradiction|(exfalso;omega))
   refine bF rfl ?_;refine J0 ?_;refine aT (cV (v:=.bool true) (hc:=λ w1 hw=>hAw w1 (hw.cl (.bM (.tail .head))))) (λ x72=>?_);refine J1 ?_
   refine aQ Tryz.results4 (λ w hw=>?_)
   exact⟨rfl,hw.done⟩
end

/- Shape: the depth of a trie is the greatest level of its places. -/
end Go.Proofs.YtadnboagdhcedaaGreatDoor
namespace Go.Ct
section
def Wu(N:List Nv)(f:Int->Nat):List Int->Nat->Nat
 | [],acc=>acc
 | b::r,acc=>Wu N f r (if(cB N b).kind=2 then max acc (1+f b) else acc)
def cw(N:List Nv)(cs:List Int):Nat->Int->Nat
 | 0,_=>0
 | n+1,i=>Wu N (cw N cs n) (cB N ((eK N cs i).getD 0)).xs 0
end

/- Shape: the two small tries of the sanity check. -/
end Go.Ct
namespace Go.Proofs.YtadnboagdhcedaaGreatDoor
section
open Go Go.RowKit Go.Ct
def mz:List Nv:=[cN.c,cN.c,cS (Nz.c [] []) 0,cS ((uJ 1).c [] []) 1]
theorem vg(x y:AX):(L4 x y).map aL.c=mz:=rfl
theorem aAE:BV 0 []:=⟨by decide,by decide,λ i hi=>absurd hi (Nat.not_lt_zero i)⟩
theorem z0{r:Int}(h:1<=r):BV 1 [r]:=⟨by decide,by show 1=eM 1 64;decide,λ i hi=>by
 have:i=0:=by simp at hi;omega
 subst this
 exact h⟩
theorem Hr:eD mz [0,3,4] 1:=by
 have h0:=tI (gen:=1) (by decide)
 have h1:=h0.push (init:=0) (n:=Nz.c [] []) (yQ (b:=0) (by decide) aAE (λ r hr=>nomatch hr)) ⟨by decide,by decide⟩
 have h2:=h1.push (init:=3) (n:=(uJ 1).c [] []) (xU (by decide) (by decide)) ⟨by decide,by decide⟩
 exact h2.cell (init:=4) ⟨by decide,by decide⟩
theorem Sn:gD mz [0,3,4] 3=some 4:=by decide +kernel
theorem X1:Bd mz [0,3,4] 12 4 []=some [4]:=by decide +kernel
theorem Qy:eK mz [0,3,4] 4=some 3:=by decide +kernel
theorem Zo:(cB mz 3).xs=[]:=by decide +kernel
theorem rv:T2 mz [0,3,4] 12 4:=⟨3,Qy,λ b hb=>by rw[Zo] at hb;exact nomatch hb⟩
theorem yf(m:Nat):Vv mz [0,3,4] m 12 4 [] 0:=⟨3,Qy,⟨.inl ⟨by decide +kernel,by decide⟩,λ _ h=>absurd h (by decide),λ h=>absurd h (by decide +kernel),λ h=>absurd h (by decide +kernel),λ _ j hj=>by rw[Zo] at hj;exact absurd hj (Nat.not_lt_zero j)⟩,.inl rfl,λ j hj=>by rw[Zo] at hj;exact absurd hj (Nat.not_lt_zero j)⟩
abbrev kz:Nd:={Nd.zero with kind:=4,key:=⟨#[97]⟩}
abbrev Ry:Nd:={Nd.zero with kind:=3,bm:=1}
def Oq:List Nv:=[cN.c,cN.c,cS (kz.c [] []) 0,cS (Ry.c [3] []) 0,cS ((uJ 1).c [] []) 1,cS (Ry.c [5] []) 2,cS ((uJ 1).c [] []) 3]
abbrev Tv:List Int:=[0,4,0,6,7]
theorem G3:eD Oq Tv 1:=by
 have h0:=tI (gen:=1) (by decide)
 have h1:=h0.push (init:=0) (n:=kz.c [] []) (G8 (by decide) (by decide)) ⟨by decide,by decide⟩
 have h2:=h1.push (init:=0) (n:=Ry.c [3] []) (yQ (b:=1) (by decide) (z0 (by decide)) (λ r hr=>by rw[List.mem_singleton.1 hr];decide)) ⟨by decide,by decide⟩
 have h3:=h2.push (init:=4) (n:=(uJ 1).c [] []) (xU (by decide) (by decide)) ⟨by decide,by decide⟩
 have h4:=h3.push (init:=0) (n:=Ry.c [5] []) (yQ (b:=1) (by decide) (z0 (by decide)) (λ r hr=>by rw[List.mem_singleton.1 hr];decide)) ⟨by decide,by decide⟩
 have h5:=h4.push (init:=6) (n:=(uJ 1).c [] []) (xU (by decide) (by decide)) ⟨by decide,by decide⟩
 exact h5.cell (init:=7) ⟨by decide,by decide⟩
theorem Rt:gD Oq Tv 5=some 7:=by decide +kernel
theorem bs:Bd Oq Tv 12 7 []=some [7,5]:=by decide +kernel
theorem Co:eK Oq Tv 7=some 6/\eK Oq Tv 5=some 4:=by decide +kernel
theorem Fm:(cB Oq 6).xs=[5]/\(cB Oq 4).xs=[3]/\(cB Oq 5).kind=2/\(cB Oq 4).kind=3/\(cB Oq 3).kind=4:=by decide +kernel
theorem Wh:T2 Oq Tv 12 7:=⟨6,Co.1,λ b hb=>by
 rw[Fm.1] at hb
 rw[List.mem_singleton.1 hb]
 refine .inr ⟨Fm.2.2.1,4,Co.2,λ c hc=>?_⟩
 rw[Fm.2.1] at hc
 rw[List.mem_singleton.1 hc]
 exact .inl Fm.2.2.2.2⟩
theorem zo(m:Nat):¬Vv Oq Tv m 12 7 [] 0:=λ⟨r,hb,_,_,h⟩=>by
 rw[Co.1] at hb
 cases hb
 have h1:=h 0 (by rw[Fm.1];decide) (by rw[Fm.1];exact Fm.2.2.1)
 rw[Fm.1] at h1
 obtain⟨s,hs,hw,_⟩:=h1
 have hs2:eK Oq Tv 5=some s:=hs
 rw[Co.2] at hs2
 cases hs2
 have h2:=(hw.br Fm.2.2.2.1 (by decide)).2 3 Fm.2.1
 rw[Fm.2.2.2.2] at h2
 exact absurd h2 (by decide)
theorem yi:cw Oq Tv 12 7=1:=by decide +kernel
def Sj(L:List aL):Prop:=∀v∈L,v=cN∨∃n xs ys c x,v=kG n xs ys c x/\(∃b:Nat,n.bm=(b:Int)/\b<18446744073709551616)/\(∃b:Nat,n.hash=(b:Int)/\b<18446744073709551616)/\xs.length<=64/\ys.length<=64/\c<=100
theorem Q5:Sj [cN,cN]:=λ v hv=>by
 simp only[List.mem_cons,List.not_mem_nil,or_false] at hv
 exact .inl (hv.elim id id)
theorem Sj.push{L:List aL}(h:Sj L){n:Nd}{xs:List Int}{ys:List Pr}{c:Nat}{x:AX}(h1:∃b:Nat,n.bm=(b:Int)/\b<18446744073709551616)(h2:∃b:Nat,n.hash=(b:Int)/\b<18446744073709551616)(h3:xs.length<=64)(h4:ys.length<=64)(h5:c<=100):Sj (L++[kG n xs ys c x]):=λ v hv=>by
 rcases List.mem_append.1 hv with hv|hv
 ·exact h v hv
 ·rw[List.mem_singleton.1 hv]
  exact .inr ⟨n,xs,ys,c,x,rfl,h1,h2,h3,h4,h5⟩
theorem Sj.fit{L:List aL}(h:Sj L):Fits L:=λ v hv=>by
 rcases h v hv with rfl|⟨n,xs,ys,c,x,rfl,h1,h2,h3,h4,h5⟩
 ·exact Wb
 ·exact Iv (by omega) (by omega)
theorem Sj.tx{L:List aL}(h:Sj L):vX L:=λ v hv=>by
 rcases h v hv with rfl|⟨n,xs,ys,c,x,rfl,h1,h2,h3,h4,h5⟩
 ·exact⟨⟨0,rfl,by decide⟩,by simp[cN,Nd.zero],by simp[cN,Nd.zero],by simp[cN,Nd.zero]⟩
 ·refine⟨h1,?_,?_,?_⟩<;>(simp only[kG];split<;>omega)
theorem Sj.hash{L:List aL}(h:Sj L):∀v∈L,∃h:Nat,v.nd.hash=(h:Int)/\h<18446744073709551616:=λ v hv=>by
 rcases h v hv with rfl|⟨n,xs,ys,c,x,rfl,h1,h2,h3,h4,h5⟩
 ·exact⟨0,rfl,by decide⟩
 ·exact h2
theorem Vu:∃b:Nat,(0:Int)=(b:Int)/\b<18446744073709551616:=⟨0,rfl,by decide⟩
theorem o64:∃b:Nat,(1:Int)=(b:Int)/\b<18446744073709551616:=⟨1,rfl,by decide⟩
theorem Jb(x y:AX):Sj (L4 x y):=(Q5.push Vu Vu (by decide) (by decide) (by decide)).push Vu Vu (by decide) (by decide) (by decide)
abbrev b9(x1 x2 x3 x4 x5:AX):List aL:=[cN,cN]++[kG kz [] [] 0 x1]++[kG Ry [3] [] 0 x2]++[kG (uJ 1) [] [] 1 x3]++[kG Ry [5] [] 2 x4]++[kG (uJ 1) [] [] 3 x5]
theorem y0(x1 x2 x3 x4 x5:AX):(b9 x1 x2 x3 x4 x5).map aL.c=Oq:=rfl
theorem Jl(x1 x2 x3 x4 x5:AX):Sj (b9 x1 x2 x3 x4 x5):=((((Q5.push Vu Vu (by decide) (by decide) (by decide)).push o64 Vu (by decide) (by decide) (by decide)).push Vu Vu (by decide) (by decide) (by decide)).push o64 Vu (by decide) (by decide) (by decide)).push Vu Vu (by decide) (by decide) (by decide)
end

end Go.Proofs.YtadnboagdhcedaaGreatDoor
