/- Worlds: Worlds. -/
import Derived.Test.YtbajmaoegmbfgaaGreatGWr1
import Derived.Test.YtbajmaoegmbfgaaGreatGLk1
set_option linter.unusedSimpArgs false
set_option linter.unusedVariables false
namespace Go.Proofs.YtbajmaoegmbfgaaGreat
open Go Go.RowKit Go.Ct
theorem Ut(x y:AX)(acc:Int)(pn:Option Addr)(cn:Nat)(pc:Option Addr)(cc:Nat):(XS.new (L4 x y) [0,3,4] 1 acc pn cn pc cc).Ok:=by
 have hmem:∀v∈L4 x y,v=fJ∨v=oE fk [] [] 0 x∨v=oE (vp 1) [] [] 1 y:=λ v hv=>by
  simp[L4] at hv
  exact hv
 refine⟨λ v hv=>?_,λ v hv=>?_,λ v hv=>?_,(λ v hv=>nomatch hv),(λ v hv=>nomatch hv),by show 2<=4;decide,by show 4<=_;decide,by show 3<=_;decide,Nat.zero_le _,Nat.le_refl _,Nat.le_refl _,Nat.le_refl _,Nat.le_refl _,Nat.zero_le _,λ v hv=>?_,by show(0:Int)<=1;decide,(λ i j _ hj=>absurd hj (Nat.not_lt_zero j)),(λ v hv=>nomatch hv)⟩
 ·rcases hmem v hv with rfl|rfl|rfl
  ·exact⟨rfl,rfl,by decide,by decide⟩
  ·exact Lu (by decide) (by decide)
  ·exact Lu (by decide) (by decide)
 ·have z:(0:Int)<=((4:Nat):Int):=by decide
  have z3:(0:Int)<=((3:Nat):Int):=by decide
  rcases hmem v hv with rfl|rfl|rfl
  ·exact⟨z,z,z,(λ r hr=>nomatch hr),z3,z3,z3,jE,jE⟩
  ·exact⟨z,z,z,(λ r hr=>nomatch hr),z3,by show(1:Int)<=((3:Nat):Int);decide,z3,jE,jE⟩
  ·exact⟨z,z,z,(λ r hr=>nomatch hr),by show(2:Int)<=((3:Nat):Int);decide,z3,z3,jE,jE⟩
 ·have hv':v=0∨v=3∨v=4:=by simpa[XS.new] using hv
  show v<=((4:Nat):Int)
  omega
 ·rcases hmem v hv with rfl|rfl|rfl<;>exact Nat.zero_le _
def kinds:List Int:=[8,8,8,9,9,10,11,12,7,8]
theorem dj{v:Nat}(h:v<10):7<=kinds.getD v 0/\kinds.getD v 0<=12:=by
 have:v=0∨v=1∨v=2∨v=3∨v=4∨v=5∨v=6∨v=7∨v=8∨v=9:=by omega
 rcases this with rfl|rfl|rfl|rfl|rfl|rfl|rfl|rfl|rfl|rfl<;>decide
theorem kr{v:Nat}(h:v<10):∃m:Nat,Aw.getD v 0=(m:Int)/\m<18446744073709551616:=by
 have:v=0∨v=1∨v=2∨v=3∨v=4∨v=5∨v=6∨v=7∨v=8∨v=9:=by omega
 refine⟨(Aw.getD v 0).toNat,?_⟩
 rcases this with rfl|rfl|rfl|rfl|rfl|rfl|rfl|rfl|rfl|rfl<;>decide
theorem Ql.mono{m B C E B' C' E':Nat}{W:Wd}(h:Ql m B C E W)(hB:B<=B')(hC:C<=C')(hE:E<=E'):Ql m B' C' E' W:=by
 obtain⟨s1,s2,s3⟩:=h.sz
 exact⟨h.z,⟨by omega,by omega,by omega⟩,λ e he=>by have:=h.ex e he;exact⟨this.i,this.k,this.em,this.ht,this.ha,by have:=this.gl;omega⟩,h.t0,h.tr,h.tl,by have:=h.el;omega,h.wr⟩
section
variable{S:List (Nat×Value)}{w0 w:World}{M:List Nat}{H:List (Nat×Obj)}{A F:Fr}{O:List Ow}{ty:TypeId}{pos:String}{af:Array Edge}{gd:Option (Nat×Bool)}{X:Type}{V:X->Value}
theorem cT(nH nO:Nat){φ:X->Prop}{hs:List (Nat×Obj)}{os:List Ow}{hs' H1:X->List (Nat×Obj)}{os' O1:X->List Ow}{Fc F1:X->Fr}{A0:Fr}{f:FuncId}{xs:List Operand}{at_:Array TypeId}{vs:List Value}{dst:Option Nat}
  (hc:∀w,SF w (Ks hs os) hs A0 [] os w->Calls Tryz.prog f ⟨vs⟩ w λ e w'=>∃x,e=.returned (V x)/\φ x/\SF w (Ks hs os) (hs' x) [] (Fc x) (os' x) w')
  (hA:bA A F (O.take nO) A0) (hF1:∀x,φ x->∀f∈F1 x,f.2=[]∨f∈Fc x++F)
  (ha:qJ S xs=vs:=by(repeat (first|exact dB _|(apply cI;focus ((conv=>{lhs;whnf});try exact rfl))));first|done|fail) (hp:plain Tryz.prog f=true:=by kernel_rfl)
  (hH:H=H.take nH++hs:=by exact rfl) (hO:O=O.take nO++os:=by exact rfl)
  (hH1:∀x,H.take nH++hs' x=H1 x:=by intro x;simp only[List.take_succ_cons,List.take_zero,List.cons_append,List.nil_append,wH];exact rfl) (hO1:∀x,O.take nO++os' x=O1 x:=by intro x;simp only[List.take_succ_cons,List.take_zero,List.cons_append,List.nil_append,wO];exact rfl) :
  bE Tryz.prog S (SF w0 M H A F O) ⟨dst,.call {callee:=.value (.func f),args:=⟨xs⟩,argTypes:=at_},ty,pos,af,gd⟩ X V (λ x w=>φ x/\SF w0 M (H1 x) A (F1 x) (O1 x) w) :=
 hY (mD hp ha) λ w hw=>(tT (H':=H.take nH) (O':=O.take nO) hw ((List.Perm.of_eq hH).trans List.perm_append_comm) ((List.Perm.of_eq hO).trans List.perm_append_comm) hA (hc w)).mono λ _ _ ⟨x,he,hx,hs⟩=>⟨x,he,hx,by
  have h2:=(hs.perm (H':=H1 x) (O':=O1 x) (by rw[<- hH1 x];exact List.perm_append_comm) (by rw[<- hO1 x];exact List.perm_append_comm)).eX (hF1 x hx)
  exact h2⟩
end
theorem Uu(l:List EX):(rA l).length=l.length:=by simp[rA]
theorem xb{es:List Nat}{k:Nat}(h:k<es.length):(Bc es)[k]?=some (.pointer (some ⟨es.getD k 0,0,none⟩)):=by
 simp[Bc,jH,h]
structure WY where
 i:Nat
 pos:Nat
 W:Wd
structure WYI(m:Nat)(y:WY):Prop where
 hi:y.i<=18
 ok:Ql m (8+134217920*y.i) (1048576+y.i) y.i y.W
theorem Nq.Il{kind:Int}{ts:List gO}{q:Gq}(h:Nq kind ts q)(p:Int):Nq kind ts {q with Il:=p}:=⟨h.ky,h.mem,h.ro⟩
set_option maxRecDepth 100000 in
set_option maxHeartbeats 4000000 in
theorem bh{l:List Int}{a:Option Addr}{c:Nat}{w:World}(ha:Go.Ct.Cl w a (aG l))(hl:l.length<=17592186043904) :
  Calls Tryz.prog 19 #[.slice a l.length c] w λ e w'=>∃q:Nat×Nat×Nat×Wd,e=.returned (.pointer (some ⟨q.1,0,none⟩))/\(q.2.2.1<18446744073709551616/\Ql q.2.2.1 2415922570 1048594 18 q.2.2.2)/\SF w [] (wH q.2.2.1 q.1 q.2.1 q.2.2.2) [] (aM q.2.2.2.z.L) (wO q.2.2.2) w':=by
 refine enter Tryz.func19 Tryz.ntmps19 rfl rfl (SF.s1 ha) ?_
 simp only[bX]
 refine cO ?_;refine J2 ?_;refine aD (Oh (Fc:=λ _=>[]) (Oc:=λ _=>[]) (hc:=λ w1 hw=>Zq)) (λ x10 h10=>?_);refine J1 ?_;refine J0 ?_;refine aD (Oh (Fc:=λ _=>[]) (hc:=λ w1 hw=>bs w1)) (λ x11 h11=>?_);refine aA ?_;refine aD (uC (hc:=λ w1 hw=>y0 (hw.tape cQ fin hl))) (λ x13 h13=>?_);refine bJ ?_;refine bI (λ x15=>?_);refine xV ?_;refine dD ?_;refine J3 ?_;refine aD (cM (hc:=λ w hs=>P4 hs)) (λ x21 h21=>?_);refine aT (Qm (sz:=2) (cs:=sG [⟨3,false⟩]) Ew I1 rfl rfl rfl rfl rfl rfl) (λ x22=>?_);refine Od ?_;refine aV ?_;refine C4 ?_
 obtain⟨m,em,hm⟩:=kr h13
 refine nD [5,6,7,8,25,26,27,28,29,30,31,32,33,34,35,36,37,38,39,40,41,42,43,44,45,46,47,48,49,50,51,52,53,54,55,56,57,58,59,60,61,62,63,64,65,66,67,68,69,70,71,72,73,74,75,76,77,78,79,80,81,82,83,84,85,86,87,88,89,90,91,92,93,94,95,96,97,98] (λ y:WY=>[(5,.int .i64 ((y.i:Nat):Int))]) (λ y=>WYI m y) (λ y=>(x10,Bd a l c y.pos)::(x15,mB x11.1 (m:Int) y.W.pt y.W.ts.length y.W.kt y.W.pe (rA y.W.ex).length y.W.ke)::(x11.1,xM y.W.z)::qM x11.1 y.W.ex) (λ y=>aM y.W.z.L) (λ y=>⟨y.W.pt,sG y.W.ts,y.W.kt,29,2⟩::⟨y.W.pe,Bc (rA y.W.ex),y.W.ke,74,1⟩::⟨y.W.z.pn,hZ y.W.z.L,y.W.z.cn,47,14⟩::⟨y.W.z.pc,aG y.W.z.cs,y.W.z.cc,37,1⟩::oQ y.W.ex) (λ y=>18-y.i) (⟨0,kD l 0,⟨XS.new (L4 x21.1 x21.2.1) [0,3,4] 1 0 x21.2.1.pn x21.2.1.cn x21.2.2.1 x21.2.2.2,[⟨3,false⟩],some ⟨x22,0,none⟩,1,[],none,0⟩⟩) (⟨by show(0:Nat)<=18;decide,Ut _ _ _ _ _ _ _,⟨by show 4<=8+134217920*0;decide,by show 3<=8+134217920*0;decide,by show(1:Int)<=((8+134217920*0:Nat):Int);decide⟩,(λ e he=>nomatch he),by show 0<1;decide,rfl,by show 1<=5;decide,Nat.le_refl _,.new⟩) (λ y f hx=>?_) (hw0:=λ w hw=>by rw[em,List.append_nil] at hw;exact(hw.kC 74 1).perm (List.perm_append_comm (l₁:=[_]) (l₂:=[_,_])) (List.Perm.swap _ _ _))
 dsimp only[gX,List.map,List.cons_append,List.nil_append]
 have hy:=hx
 refine kA ?_;refine Ck ?_
 (refine eD 27 (λ g27=>?_) (λ g27=>?_)<;>(first|refine aI ?_|(refine aF ?_;refine aA ?_)))
 all_goals ((first|refine aI ?_|(refine aF ?_;refine aD (uC (hc:=λ w1 hw=>jt (hw.tape cQ fin hl))) (λ x29 h29=>?_)));refine cE ?_;refine aH ?_)
 all_goals
 refine bB (λ c30=>?_) (λ c30=>?_)
 ·try exact nv c30
  all_goals (refine qA ?_;refine J0 ?_;refine aT ((by exact Ix (λ _=>cJ (cs:=aG kinds) Ft I1 rfl rfl rfl rfl rfl))) (λ x33=>?_);refine aA ?_;refine aD (uC (hc:=λ w1 hw=>eH 10 (hw.tape cQ fin hl) (by decide) (by decide))) (λ x35 h35=>?_);refine aC (dE (lst:=kinds) (k:=x35) rf rf fT fL (.new .head) (by omega) (by simp only[kinds,List.length_cons,List.length_nil];omega)) rfl ?_;refine aC (fF (lst:=kinds) (q:=x35) rf fL (.new .head) (by simp only[kinds,List.length_cons,List.length_nil];omega)) rfl ?_;refine iE ?_)
  all_goals
   refine eQ [6,38,39,40,41,42,43,44] (λ q:Int×Nat=>[(6,.int .i64 q.1)]) (λ q=>7<=q.1/\q.1<=12) (λ q=>(x10,Bd a l c q.2)::(x15,mB x11.1 (m:Int) y.W.pt y.W.ts.length y.W.kt y.W.pe (rA y.W.ex).length y.W.ke)::(x11.1,xM y.W.z)::qM x11.1 y.W.ex) (λ _=>aM y.W.z.L) (λ _=>⟨y.W.pt,sG y.W.ts,y.W.kt,29,2⟩::⟨y.W.pe,Bc (rA y.W.ex),y.W.ke,74,1⟩::⟨y.W.z.pn,hZ y.W.z.L,y.W.z.cn,47,14⟩::⟨y.W.z.pc,aG y.W.z.cs,y.W.z.cc,37,1⟩::oQ y.W.ex) (by decide) (λ _=>by exact rfl) ?_ (λ q f hx=>?_)
   ·refine aV ?_
    refine A8 ?_;refine mC ?_;refine aA ?_
    (refine eD 40 (λ g40=>?_) (λ g40=>?_)<;>(first|refine aI ?_|(refine aF ?_;refine aA ?_)))
    all_goals ((first|refine aI ?_|(refine aF ?_;refine aD (uC (hc:=λ w1 hw=>eH 3 (hw.tape cQ fin hl) (by decide) (by decide))) (λ x42 h42=>?_)));refine Ae ?_;refine aH ?_)
    all_goals
    refine bB (λ c44=>?_) (λ c44=>?_)
    ·try exact nv c44
     all_goals (refine dL ?_;refine J1 ?_)
     all_goals
      refine fD ((8,kD l (kD l y.pos))) ?_ (hw1:=λ w hw=>hw.back (hF:=aX.hJ λ f hf=>List.mem_cons_of_mem _ hf))
      ·exact⟨by show(7:Int)<=8;decide,by show(8:Int)<=12;decide⟩
    ·all_goals try (exfalso;omega)
     all_goals refine aY ?_
     all_goals
      refine fD (by first|exact((λ _=>(kinds.getD x35 0,kD l (kD l y.pos))) x42)|exact(kinds.getD x35 0,kD l y.pos)) ?_ (hw1:=λ w hw=>hw.back (hF:=aX.hJ λ f hf=>List.mem_cons_of_mem _ hf))
      ·exact dj (by omega)
   dsimp only[gX,List.map,List.cons_append,List.nil_append]
   have hq:=hx
  all_goals (refine iY ?_;refine aA ?_;refine aD (cM (hs:=[(x10,Bd a l c q.2),(x15,mB x11.1 (m:Int) y.W.pt y.W.ts.length y.W.kt y.W.pe (rA y.W.ex).length y.W.ke)]) (os:=[⟨y.W.pt,sG y.W.ts,y.W.kt,29,2⟩]) (A0:=[(a,aG l)]) (hc:=λ w hs=>r4 q.1 hq hl hy.ok.t0 (by have:=hy.ok.tl;omega) hy.ok.tr hs)) (λ x48 h48=>?_);refine aJ (λ x7=>?_);refine J5 ?_;refine aV ?_)
  all_goals
   refine eQ [49,50,51,52,53,54,55,56] (λ r:Int×Nat=>[]) (λ r=>True) (λ r=>(x7,.cells ⟨Q9 (({x48 with Il:=r.1}:Gq).cl q.1 (m:Int))⟩ 89 (0,0))::(x10,Bd a l c r.2)::(x15,mB x11.1 (m:Int) y.W.pt y.W.ts.length y.W.kt y.W.pe (rA y.W.ex).length y.W.ke)::(x11.1,xM y.W.z)::qM x11.1 y.W.ex) (λ _=>aM y.W.z.L) (λ _=>⟨y.W.pt,sG y.W.ts,y.W.kt,29,2⟩::⟨y.W.pe,Bc (rA y.W.ex),y.W.ke,74,1⟩::⟨y.W.z.pn,hZ y.W.z.L,y.W.z.cn,47,14⟩::⟨y.W.z.pc,aG y.W.z.cs,y.W.z.cc,37,1⟩::oQ y.W.ex) (by decide) (λ _=>by exact rfl) ?_ (λ r f hx=>?_)
   ·refine aV ?_
    refine A8 ?_;refine mC ?_;refine aA ?_
    (refine eD 51 (λ g51=>?_) (λ g51=>?_)<;>(first|refine aI ?_|(refine aF ?_;refine aA ?_)))
    all_goals ((first|refine aI ?_|(refine aF ?_;refine aD (uC (hc:=λ w1 hw=>eH 3 (hw.tape cQ fin hl) (by decide) (by decide))) (λ x53 h53=>?_)));refine Ae ?_;refine aH ?_)
    all_goals
    refine bB (λ c55=>?_) (λ c55=>?_)
    ·try exact nv c55
     all_goals (refine dL ?_;refine uG ?_)
     all_goals
      refine fD ((0,kD l x48.pos)) ?_ (hw1:=λ w hw=>hw.back (hF:=aX.all))
      ·trivial
    ·all_goals try (exfalso;omega)
     all_goals refine aY ?_
     all_goals
      refine fD (by first|exact((λ _=>(x48.Il,kD l x48.pos)) x53)|exact(x48.Il,x48.pos)) ?_ (hw1:=λ w hw=>hw.back (hF:=aX.all))
      ·trivial
   dsimp only[gX,List.map,List.cons_append,List.nil_append]
  all_goals refine Fs ?_
  all_goals
   refine eQ [8,57,58,59,60,61,62,63,64,65,66,67,68,69] (λ s:Nat×Nat=>[(8,.int .i64 ((s.1:Nat):Int))]) (λ s=>s.1<=1048576) (λ s=>(x7,.cells ⟨Q9 (({x48 with Il:=r.1}:Gq).cl q.1 (m:Int))⟩ 89 (0,0))::(x10,Bd a l c s.2)::(x15,mB x11.1 (m:Int) y.W.pt y.W.ts.length y.W.kt y.W.pe (rA y.W.ex).length y.W.ke)::(x11.1,xM y.W.z)::qM x11.1 y.W.ex) (λ _=>aM y.W.z.L) (λ _=>⟨y.W.pt,sG y.W.ts,y.W.kt,29,2⟩::⟨y.W.pe,Bc (rA y.W.ex),y.W.ke,74,1⟩::⟨y.W.z.pn,hZ y.W.z.L,y.W.z.cn,47,14⟩::⟨y.W.z.pc,aG y.W.z.cs,y.W.z.cc,37,1⟩::oQ y.W.ex) (by decide) (λ _=>by exact rfl) ?_ (λ s f hx=>?_)
   ·refine aV ?_
    refine A8 ?_;refine dD ?_;refine Nc ?_;refine Ck ?_
    (refine eD 63 (λ g63=>?_) (λ g63=>?_)<;>(first|refine aI ?_|(refine aF ?_;refine aA ?_)))
    all_goals ((first|refine aI ?_|(refine aF ?_;refine aD (uC (hc:=λ w1 hw=>eH 4 (hw.tape cQ fin hl) (by decide) (by decide))) (λ x65 h65=>?_)));refine vJ ?_;refine aH ?_)
    all_goals
    refine bB (λ c67=>?_) (λ c67=>?_)
    ·try exact nv c67
     all_goals (refine A8 ?_;refine aD (uC (hc:=λ w1 hw=>eH 16 (hw.tape cQ fin hl) (by decide) (by decide))) (λ x69 h69=>?_);refine J1 ?_)
     all_goals
      refine fD ((x69,kD l (kD l r.2))) ?_ (hw1:=λ w hw=>hw.back (hF:=aX.all))
      ·show x69<=1048576;omega
    ·all_goals try (exfalso;omega)
     all_goals refine aY ?_
     all_goals
      refine fD (by first|exact((λ _=>(1048576,kD l r.2)) x65)|exact(1048576,r.2)) ?_ (hw1:=λ w hw=>hw.back (hF:=aX.all))
      ·exact Nat.le_refl 1048576
   dsimp only[gX,List.map,List.cons_append,List.nil_append]
   have hs1:=hx
  all_goals (refine J2 ?_;refine bP ?_;refine aA ?_;refine aD (cT 2 0 (hs:=wH m x15 x11.1 y.W) (os:=wO y.W) (A0:=aM y.W.z.L) (F1:=λ x:Wd×List aP=>aM x.1.z.L) (hc:=λ w hs=>qm (q:={x48 with Il:=r.1}) (kind:=q.1) s.1 hs1 (by omega) (by omega) hm hy.ok (by omega) hq (h48.Il _) (λ f hf=>hf) hs) (hA:=bA.of λ f hf=>.inr (.inr (.inl hf))) (hF1:=λ x hx f hf=>by rw[hx.2,dH] at hf;exact .inr ((List.mem_append.1 hf).elim (λ h=>List.mem_append_right _ h) (λ h=>List.mem_append_left _ h)))) (λ x73 h73=>?_);refine aH ?_)
  all_goals
   refine eQ [74,75,76,77,78,79,80,81,82,83,84,85,86,87,88,89,90,91,92,93,94,95,96,97,98] (λ u:Nat×Wd=>[]) (λ u=>Ql m (8+134217920*(y.i+1)) (1048576+(y.i+1)) (y.i+1) u.2) (λ u=>(x7,.cells ⟨Q9 (({x48 with Il:=r.1}:Gq).cl q.1 (m:Int))⟩ 89 (0,0))::(x10,Bd a l c u.1)::(x15,mB x11.1 (m:Int) u.2.pt u.2.ts.length u.2.kt u.2.pe (rA u.2.ex).length u.2.ke)::(x11.1,xM u.2.z)::qM x11.1 u.2.ex) (λ u=>aM u.2.z.L) (λ u=>⟨u.2.pt,sG u.2.ts,u.2.kt,29,2⟩::⟨u.2.pe,Bc (rA u.2.ex),u.2.ke,74,1⟩::⟨u.2.z.pn,hZ u.2.z.L,u.2.z.cn,47,14⟩::⟨u.2.z.pc,aG u.2.z.cs,u.2.z.cc,37,1⟩::oQ u.2.ex) (by decide) (λ _=>by exact rfl) ?_ (λ u f hx=>?_)
   ·refine aV ?_
    refine A8 ?_;refine dD ?_;refine Nc ?_;refine C5 ?_;refine aA ?_
    (refine eD 80 (λ g80=>?_) (λ g80=>?_)<;>(first|refine aI ?_|(refine aF ?_;refine aA ?_)))
    all_goals ((first|refine aI ?_|(refine aF ?_;refine aD (uC (hc:=λ w1 hw=>eH 3 (hw.tape cQ fin hl) (by decide) (by decide))) (λ x82 h82=>?_)));refine vJ ?_;refine aH ?_)
    all_goals
    refine bB (λ c84=>?_) (λ c84=>?_)
    ·try exact nv c84
     all_goals (refine dK [(0,[]),(1,[]),(2,[]),(3,[]),(4,[]),(5,[]),(6,[]),(7,[]),(8,[]),(9,[]),(10,[3]),(11,[]),(12,[]),(13,[])] ?_;refine Zb ?_;refine X4 ?_;refine oD ?_;refine aZ (i:=10) (hq:=(uC (hc:=λ w1 hw=>eH ((rA x73.1.ex).length:Nat) (hw.tape cQ fin hl) (by omega) (by rw[Uu];have:=h73.1.el;omega)))) (h:=λ x95 h95=>?_);refine bQ (i:=11) (hq:=(tg (cs:=Bc (rA x73.1.ex)) (k:=x95) rf rf fT fL (.own (.tail .head)) (by omega) (by rw[F3];omega))) (h:=?_);refine bQ (i:=12) (hq:=(Gy (cs:=Bc (rA x73.1.ex)) (v:=.pointer (some ⟨(rA x73.1.ex).getD x95 0,0,none⟩)) rf fL (.own (.tail .head)) (xb (by omega)))) (h:=?_);refine aZ (i:=13) (hq:=(cT 2 0 (hs:=wH m x15 x11.1 x73.1) (os:=wO x73.1) (A0:=aM x73.1.z.L) (F1:=λ x:Wd×List aP=>aM x.1.z.L) (hc:=λ w hs=>kh (i:=x95) (by rw[<- Uu];omega) (by omega) (by omega) hm h73.1 (λ f hf=>hf) hs) (hA:=bA.of λ f hf=>.inr (.inr (.inl hf))) (hF1:=λ x hx f hf=>by rw[hx.2.2,dH] at hf;exact .inr ((List.mem_append.1 hf).elim (λ h=>List.mem_append_right _ h) (λ h=>List.mem_append_left _ h))))) (h:=λ x98 h98=>?_);refine dY ?_)
     all_goals
      refine fD ((kD l (kD l s.2),x98.1)) ?_ (hw1:=λ w hw=>hw.back (hF:=aX.all))
      ·exact h98.1.mono (by omega) (by omega) (Nat.le_refl _)
    ·all_goals try (exfalso;omega)
     all_goals refine aY ?_
     all_goals
      refine fD (by first|exact((λ _=>(kD l s.2,x73.1)) x82)|exact(s.2,x73.1)) ?_ (hw1:=λ w hw=>hw.back (hF:=aX.all))
      ·exact h73.1.mono (by omega) (by omega) (Nat.le_refl _)
   dsimp only[gX,List.map,List.cons_append,List.nil_append]
  all_goals (refine fH ?_;refine uF ?_)
  all_goals
   refine iN (⟨y.i+1,u.1,u.2⟩) ?_ (hw1:=λ w hw=>hw.back (hF:=aX.all))
   ·exact⟨by show y.i+1<=18;omega,hx⟩
 ·all_goals try (exfalso;omega)
  all_goals (refine bM rfl ?_;refine J2 ?_;refine J1 ?_)
  all_goals
   refine aS Tryz.results19 (λ w hw=>?_)
   exact⟨(x15,x11.1,m,y.W),rfl,⟨hm,hy.ok.mono (by have:=hy.hi;omega) (by have:=hy.hi;omega) hy.hi⟩,hw.aU (hH:=List.Sublist.cons _ (List.Sublist.refl _)) (hF:=by exact aX.all) (hO:=List.Sublist.refl _)⟩
end Go.Proofs.YtbajmaoegmbfgaaGreat
