/- Worlds: Worlds. -/
import Derived.Test.YtbajmaoegmbfgaaGreatGWr1
import Derived.Test.YtbajmaoegmbfgaaGreatGLk1
set_option linter.unusedSimpArgs false
set_option linter.unusedVariables false
namespace Go.Proofs.YtbajmaoegmbfgaaGreat
open Go Go.RowKit Go.Ct
theorem We(x y:AX)(acc:Int)(pn:Option Addr)(cn:Nat)(pc:Option Addr)(cc:Nat):(XS.new (L4 x y) [0,3,4] 1 acc pn cn pc cc).Ok:=by
 have hmem:∀v∈L4 x y,v=fJ∨v=kM cp [] [] 0 x∨v=kM (zu 1) [] [] 1 y:=λ v hv=>by
  simp[L4] at hv
  exact hv
 refine⟨λ v hv=>?_,λ v hv=>?_,λ v hv=>?_,(λ v hv=>nomatch hv),(λ v hv=>nomatch hv),by show 2<=4;decide,by show 4<=_;decide,by show 3<=_;decide,Nat.zero_le _,Nat.le_refl _,Nat.le_refl _,Nat.le_refl _,Nat.le_refl _,Nat.zero_le _,λ v hv=>?_,by show(0:Int)<=1;decide,(λ i j _ hj=>absurd hj (Nat.not_lt_zero j)),(λ v hv=>nomatch hv)⟩
 ·rcases hmem v hv with rfl|rfl|rfl
  ·exact⟨rfl,rfl,by decide,by decide⟩
  ·exact Gm (by decide) (by decide)
  ·exact Gm (by decide) (by decide)
 ·have z:(0:Int)<=((4:Nat):Int):=by decide
  have z3:(0:Int)<=((3:Nat):Int):=by decide
  rcases hmem v hv with rfl|rfl|rfl
  ·exact⟨z,z,z,(λ r hr=>nomatch hr),z3,z3,z3,jD,jD⟩
  ·exact⟨z,z,z,(λ r hr=>nomatch hr),z3,by show(1:Int)<=((3:Nat):Int);decide,z3,jD,jD⟩
  ·exact⟨z,z,z,(λ r hr=>nomatch hr),by show(2:Int)<=((3:Nat):Int);decide,z3,z3,jD,jD⟩
 ·have hv':v=0∨v=3∨v=4:=by simpa[XS.new] using hv
  show v<=((4:Nat):Int)
  omega
 ·rcases hmem v hv with rfl|rfl|rfl<;>exact Nat.zero_le _
def kinds:List Int:=[8,8,8,9,9,10,11,12,7,8]
theorem mj{v:Nat}(h:v<10):7<=kinds.getD v 0/\kinds.getD v 0<=12:=by
 have:v=0∨v=1∨v=2∨v=3∨v=4∨v=5∨v=6∨v=7∨v=8∨v=9:=by omega
 rcases this with rfl|rfl|rfl|rfl|rfl|rfl|rfl|rfl|rfl|rfl<;>decide
theorem ay{v:Nat}(h:v<10):∃m:Nat,zW.getD v 0=(m:Int)/\m<18446744073709551616:=by
 have:v=0∨v=1∨v=2∨v=3∨v=4∨v=5∨v=6∨v=7∨v=8∨v=9:=by omega
 refine⟨(zW.getD v 0).toNat,?_⟩
 rcases this with rfl|rfl|rfl|rfl|rfl|rfl|rfl|rfl|rfl|rfl<;>decide
theorem Px.mono{m B C E B' C' E':Nat}{W:Wd}(h:Px m B C E W)(hB:B<=B')(hC:C<=C')(hE:E<=E'):Px m B' C' E' W:=by
 obtain⟨s1,s2,s3⟩:=h.sz
 exact⟨h.z,⟨by omega,by omega,by omega⟩,λ e he=>by have:=h.ex e he;exact⟨this.i,this.k,this.em,this.ht,this.ha,by have:=this.gl;omega⟩,h.t0,h.tr,h.tl,by have:=h.el;omega,h.wr⟩
section
variable{S:List (Nat×Value)}{w0 w:World}{M:List Nat}{H:List (Nat×Obj)}{A F:Fr}{O:List Ow}{ty:TypeId}{pos:String}{af:Array Edge}{gd:Option (Nat×Bool)}{X:Type}{V:X->Value}
theorem cT(nH nO:Nat){φ:X->Prop}{hs:List (Nat×Obj)}{os:List Ow}{hs' H1:X->List (Nat×Obj)}{os' O1:X->List Ow}{Fc F1:X->Fr}{A0:Fr}{f:FuncId}{xs:List Operand}{at_:Array TypeId}{vs:List Value}{dst:Option Nat}
  (hc:∀w,SF w (Ks hs os) hs A0 [] os w->Calls Tryz.prog f ⟨vs⟩ w λ e w'=>∃x,e=.returned (V x)/\φ x/\SF w (Ks hs os) (hs' x) [] (Fc x) (os' x) w')
  (hA:aY A F (O.take nO) A0) (hF1:∀x,φ x->∀f∈F1 x,f.2=[]∨f∈Fc x++F)
  (ha:qR S xs=vs:=by(repeat (first|exact dE _|(apply cJ;focus ((conv=>{lhs;whnf});try exact rfl))));first|done|fail) (hp:plain Tryz.prog f=true:=by kernel_rfl)
  (hH:H=H.take nH++hs:=by exact rfl) (hO:O=O.take nO++os:=by exact rfl)
  (hH1:∀x,H.take nH++hs' x=H1 x:=by intro x;simp only[List.take_succ_cons,List.take_zero,List.cons_append,List.nil_append,wH];exact rfl) (hO1:∀x,O.take nO++os' x=O1 x:=by intro x;simp only[List.take_succ_cons,List.take_zero,List.cons_append,List.nil_append,wO];exact rfl) :
  bE Tryz.prog S (SF w0 M H A F O) ⟨dst,.call {callee:=.value (.func f),args:=⟨xs⟩,argTypes:=at_},ty,pos,af,gd⟩ X V (λ x w=>φ x/\SF w0 M (H1 x) A (F1 x) (O1 x) w) :=
 hY (mB hp ha) λ w hw=>(sO (H':=H.take nH) (O':=O.take nO) hw ((List.Perm.of_eq hH).trans List.perm_append_comm) ((List.Perm.of_eq hO).trans List.perm_append_comm) hA (hc w)).mono λ _ _ ⟨x,he,hx,hs⟩=>⟨x,he,hx,by
  have h2:=(hs.perm (H':=H1 x) (O':=O1 x) (by rw[<- hH1 x];exact List.perm_append_comm) (by rw[<- hO1 x];exact List.perm_append_comm)).eY (hF1 x hx)
  exact h2⟩
end
theorem Ux(l:List EX):(qG l).length=l.length:=by simp[qG]
theorem wh{es:List Nat}{k:Nat}(h:k<es.length):(Be es)[k]?=some (.pointer (some ⟨es.getD k 0,0,none⟩)):=by
 simp[Be,jJ,h]
structure WY where
 i:Nat
 pos:Nat
 W:Wd
structure WYI(m:Nat)(y:WY):Prop where
 hi:y.i<=18
 ok:Px m (8+134217920*y.i) (1048576+y.i) y.i y.W
theorem Qs.Iq{kind:Int}{ts:List gO}{q:G7}(h:Qs kind ts q)(p:Int):Qs kind ts {q with Iq:=p}:=⟨h.ky,h.mem,h.ro⟩
set_option maxRecDepth 100000 in
set_option maxHeartbeats 4000000 in
theorem j4{l:List Int}{a:Option Addr}{c:Nat}{w:World}(ha:Go.Ct.Cl w a (aG l))(hl:l.length<=17592186043904) :
  Calls Tryz.prog 19 #[.slice a l.length c] w λ e w'=>∃q:Nat×Nat×Nat×Wd,e=.returned (.pointer (some ⟨q.1,0,none⟩))/\(q.2.2.1<18446744073709551616/\Px q.2.2.1 2415922570 1048594 18 q.2.2.2)/\SF w [] (wH q.2.2.1 q.1 q.2.1 q.2.2.2) [] (aM q.2.2.2.z.L) (wO q.2.2.2) w':=by
 refine enter Tryz.func19 Tryz.ntmps19 rfl rfl (SF.s1 ha) ?_
 simp only[bX]
 refine cO ?_;refine J2 ?_;refine aD (P0 (Fc:=λ _=>[]) (Oc:=λ _=>[]) (hc:=λ w1 hw=>jc)) (λ x10 h10=>?_);refine J1 ?_;refine J0 ?_;refine aD (P0 (Fc:=λ _=>[]) (hc:=λ w1 hw=>cz w1)) (λ x11 h11=>?_);refine aA ?_;refine aD (uG (hc:=λ w1 hw=>vn (hw.tape cQ fin hl))) (λ x13 h13=>?_);refine bJ ?_;refine bK (λ x15=>?_);refine yA ?_;refine dC ?_;refine J3 ?_;refine aD (cM (hc:=λ w hs=>Pv hs)) (λ x21 h21=>?_);refine aT (Qo (sz:=2) (cs:=sS [⟨3,false⟩]) Fa I5 rfl rfl rfl rfl rfl rfl) (λ x22=>?_);refine N7 ?_;refine aV ?_;refine Dd ?_
 obtain⟨m,em,hm⟩:=ay h13
 refine mV [5,6,7,8,25,26,27,28,29,30,31,32,33,34,35,36,37,38,39,40,41,42,43,44,45,46,47,48,49,50,51,52,53,54,55,56,57,58,59,60,61,62,63,64,65,66,67,68,69,70,71,72,73,74,75,76,77,78,79,80,81,82,83,84,85,86,87,88,89,90,91,92,93,94,95,96,97,98] (λ y:WY=>[(5,.int .i64 ((y.i:Nat):Int))]) (λ y=>WYI m y) (λ y=>(x10,Bg a l c y.pos)::(x15,lE x11.1 (m:Int) y.W.pt y.W.ts.length y.W.kt y.W.pe (qG y.W.ex).length y.W.ke)::(x11.1,xM y.W.z)::qP x11.1 y.W.ex) (λ y=>aM y.W.z.L) (λ y=>⟨y.W.pt,sS y.W.ts,y.W.kt,29,2⟩::⟨y.W.pe,Be (qG y.W.ex),y.W.ke,74,1⟩::⟨y.W.z.pn,gZ y.W.z.L,y.W.z.cn,47,14⟩::⟨y.W.z.pc,aG y.W.z.cs,y.W.z.cc,37,1⟩::oR y.W.ex) (λ y=>18-y.i) (⟨0,kG l 0,⟨XS.new (L4 x21.1 x21.2.1) [0,3,4] 1 0 x21.2.1.pn x21.2.1.cn x21.2.2.1 x21.2.2.2,[⟨3,false⟩],some ⟨x22,0,none⟩,1,[],none,0⟩⟩) (⟨by show(0:Nat)<=18;decide,We _ _ _ _ _ _ _,⟨by show 4<=8+134217920*0;decide,by show 3<=8+134217920*0;decide,by show(1:Int)<=((8+134217920*0:Nat):Int);decide⟩,(λ e he=>nomatch he),by show 0<1;decide,rfl,by show 1<=5;decide,Nat.le_refl _,.new⟩) (λ y f hx=>?_) (hw0:=λ w hw=>by rw[em,List.append_nil] at hw;exact(hw.kI 74 1).perm (List.perm_append_comm (l₁:=[_]) (l₂:=[_,_])) (List.Perm.swap _ _ _))
 dsimp only[gX,List.map,List.cons_append,List.nil_append]
 have hy:=hx
 refine jV ?_;refine Bq ?_
 (refine dZ 27 (λ g27=>?_) (λ g27=>?_)<;>(first|refine aI ?_|(refine aF ?_;refine aA ?_)))
 all_goals ((first|refine aI ?_|(refine aF ?_;refine aD (uG (hc:=λ w1 hw=>ij (hw.tape cQ fin hl))) (λ x29 h29=>?_)));refine cA ?_;refine aH ?_)
 all_goals
 refine bB (λ c30=>?_) (λ c30=>?_)
 ·try exact nv c30
  all_goals (refine qB ?_;refine J0 ?_;refine aT ((by exact It (λ _=>cI (cs:=aG kinds) Ev I5 rfl rfl rfl rfl rfl))) (λ x33=>?_);refine aA ?_;refine aD (uG (hc:=λ w1 hw=>eH 10 (hw.tape cQ fin hl) (by decide) (by decide))) (λ x35 h35=>?_);refine aC (dD (lst:=kinds) (k:=x35) rf rf fU fK (.new .head) (by omega) (by simp only[kinds,List.length_cons,List.length_nil];omega)) rfl ?_;refine aC (fD (lst:=kinds) (q:=x35) rf fK (.new .head) (by simp only[kinds,List.length_cons,List.length_nil];omega)) rfl ?_;refine hZ ?_)
  all_goals
   refine eF [6,38,39,40,41,42,43,44] (λ q:Int×Nat=>[(6,.int .i64 q.1)]) (λ q=>7<=q.1/\q.1<=12) (λ q=>(x10,Bg a l c q.2)::(x15,lE x11.1 (m:Int) y.W.pt y.W.ts.length y.W.kt y.W.pe (qG y.W.ex).length y.W.ke)::(x11.1,xM y.W.z)::qP x11.1 y.W.ex) (λ _=>aM y.W.z.L) (λ _=>⟨y.W.pt,sS y.W.ts,y.W.kt,29,2⟩::⟨y.W.pe,Be (qG y.W.ex),y.W.ke,74,1⟩::⟨y.W.z.pn,gZ y.W.z.L,y.W.z.cn,47,14⟩::⟨y.W.z.pc,aG y.W.z.cs,y.W.z.cc,37,1⟩::oR y.W.ex) (by decide) (λ _=>by exact rfl) ?_ (λ q f hx=>?_)
   ·refine aV ?_
    refine Ak ?_;refine mK ?_;refine aA ?_
    (refine dZ 40 (λ g40=>?_) (λ g40=>?_)<;>(first|refine aI ?_|(refine aF ?_;refine aA ?_)))
    all_goals ((first|refine aI ?_|(refine aF ?_;refine aD (uG (hc:=λ w1 hw=>eH 3 (hw.tape cQ fin hl) (by decide) (by decide))) (λ x42 h42=>?_)));refine Ae ?_;refine aH ?_)
    all_goals
    refine bB (λ c44=>?_) (λ c44=>?_)
    ·try exact nv c44
     all_goals (refine dJ ?_;refine J1 ?_)
     all_goals
      refine eW ((8,kG l (kG l y.pos))) ?_ (hw1:=λ w hw=>hw.back (hF:=aX.iD λ f hf=>List.mem_cons_of_mem _ hf))
      ·exact⟨by show(7:Int)<=8;decide,by show(8:Int)<=12;decide⟩
    ·all_goals try (exfalso;omega)
     all_goals refine bA ?_
     all_goals
      refine eW (by first|exact((λ _=>(kinds.getD x35 0,kG l (kG l y.pos))) x42)|exact(kinds.getD x35 0,kG l y.pos)) ?_ (hw1:=λ w hw=>hw.back (hF:=aX.iD λ f hf=>List.mem_cons_of_mem _ hf))
      ·exact mj (by omega)
   dsimp only[gX,List.map,List.cons_append,List.nil_append]
   have hq:=hx
  all_goals (refine iU ?_;refine aA ?_;refine aD (cM (hs:=[(x10,Bg a l c q.2),(x15,lE x11.1 (m:Int) y.W.pt y.W.ts.length y.W.kt y.W.pe (qG y.W.ex).length y.W.ke)]) (os:=[⟨y.W.pt,sS y.W.ts,y.W.kt,29,2⟩]) (A0:=[(a,aG l)]) (hc:=λ w hs=>sb q.1 hq hl hy.ok.t0 (by have:=hy.ok.tl;omega) hy.ok.tr hs)) (λ x48 h48=>?_);refine aJ (λ x7=>?_);refine J5 ?_;refine aV ?_)
  all_goals
   refine eF [49,50,51,52,53,54,55,56] (λ r:Int×Nat=>[]) (λ r=>True) (λ r=>(x7,.cells ⟨Rb (({x48 with Iq:=r.1}:G7).cl q.1 (m:Int))⟩ 89 (0,0))::(x10,Bg a l c r.2)::(x15,lE x11.1 (m:Int) y.W.pt y.W.ts.length y.W.kt y.W.pe (qG y.W.ex).length y.W.ke)::(x11.1,xM y.W.z)::qP x11.1 y.W.ex) (λ _=>aM y.W.z.L) (λ _=>⟨y.W.pt,sS y.W.ts,y.W.kt,29,2⟩::⟨y.W.pe,Be (qG y.W.ex),y.W.ke,74,1⟩::⟨y.W.z.pn,gZ y.W.z.L,y.W.z.cn,47,14⟩::⟨y.W.z.pc,aG y.W.z.cs,y.W.z.cc,37,1⟩::oR y.W.ex) (by decide) (λ _=>by exact rfl) ?_ (λ r f hx=>?_)
   ·refine aV ?_
    refine Ak ?_;refine mK ?_;refine aA ?_
    (refine dZ 51 (λ g51=>?_) (λ g51=>?_)<;>(first|refine aI ?_|(refine aF ?_;refine aA ?_)))
    all_goals ((first|refine aI ?_|(refine aF ?_;refine aD (uG (hc:=λ w1 hw=>eH 3 (hw.tape cQ fin hl) (by decide) (by decide))) (λ x53 h53=>?_)));refine Ae ?_;refine aH ?_)
    all_goals
    refine bB (λ c55=>?_) (λ c55=>?_)
    ·try exact nv c55
     all_goals (refine dJ ?_;refine uP ?_)
     all_goals
      refine eW ((0,kG l x48.pos)) ?_ (hw1:=λ w hw=>hw.back (hF:=aX.all))
      ·trivial
    ·all_goals try (exfalso;omega)
     all_goals refine bA ?_
     all_goals
      refine eW (by first|exact((λ _=>(x48.Iq,kG l x48.pos)) x53)|exact(x48.Iq,x48.pos)) ?_ (hw1:=λ w hw=>hw.back (hF:=aX.all))
      ·trivial
   dsimp only[gX,List.map,List.cons_append,List.nil_append]
  all_goals refine Fu ?_
  all_goals
   refine eF [8,57,58,59,60,61,62,63,64,65,66,67,68,69] (λ s:Nat×Nat=>[(8,.int .i64 ((s.1:Nat):Int))]) (λ s=>s.1<=1048576) (λ s=>(x7,.cells ⟨Rb (({x48 with Iq:=r.1}:G7).cl q.1 (m:Int))⟩ 89 (0,0))::(x10,Bg a l c s.2)::(x15,lE x11.1 (m:Int) y.W.pt y.W.ts.length y.W.kt y.W.pe (qG y.W.ex).length y.W.ke)::(x11.1,xM y.W.z)::qP x11.1 y.W.ex) (λ _=>aM y.W.z.L) (λ _=>⟨y.W.pt,sS y.W.ts,y.W.kt,29,2⟩::⟨y.W.pe,Be (qG y.W.ex),y.W.ke,74,1⟩::⟨y.W.z.pn,gZ y.W.z.L,y.W.z.cn,47,14⟩::⟨y.W.z.pc,aG y.W.z.cs,y.W.z.cc,37,1⟩::oR y.W.ex) (by decide) (λ _=>by exact rfl) ?_ (λ s f hx=>?_)
   ·refine aV ?_
    refine Ak ?_;refine dC ?_;refine Nf ?_;refine Bq ?_
    (refine dZ 63 (λ g63=>?_) (λ g63=>?_)<;>(first|refine aI ?_|(refine aF ?_;refine aA ?_)))
    all_goals ((first|refine aI ?_|(refine aF ?_;refine aD (uG (hc:=λ w1 hw=>eH 4 (hw.tape cQ fin hl) (by decide) (by decide))) (λ x65 h65=>?_)));refine vA ?_;refine aH ?_)
    all_goals
    refine bB (λ c67=>?_) (λ c67=>?_)
    ·try exact nv c67
     all_goals (refine Ak ?_;refine aD (uG (hc:=λ w1 hw=>eH 16 (hw.tape cQ fin hl) (by decide) (by decide))) (λ x69 h69=>?_);refine J1 ?_)
     all_goals
      refine eW ((x69,kG l (kG l r.2))) ?_ (hw1:=λ w hw=>hw.back (hF:=aX.all))
      ·show x69<=1048576;omega
    ·all_goals try (exfalso;omega)
     all_goals refine bA ?_
     all_goals
      refine eW (by first|exact((λ _=>(1048576,kG l r.2)) x65)|exact(1048576,r.2)) ?_ (hw1:=λ w hw=>hw.back (hF:=aX.all))
      ·exact Nat.le_refl 1048576
   dsimp only[gX,List.map,List.cons_append,List.nil_append]
   have hs1:=hx
  all_goals (refine J2 ?_;refine bN ?_;refine aA ?_;refine aD (cT 2 0 (hs:=wH m x15 x11.1 y.W) (os:=wO y.W) (A0:=aM y.W.z.L) (F1:=λ x:Wd×List aP=>aM x.1.z.L) (hc:=λ w hs=>n8 (q:={x48 with Iq:=r.1}) (kind:=q.1) s.1 hs1 (by omega) (by omega) hm hy.ok (by omega) hq (h48.Iq _) (λ f hf=>hf) hs) (hA:=aY.of λ f hf=>.inr (.inr (.inl hf))) (hF1:=λ x hx f hf=>by rw[hx.2,dB] at hf;exact .inr ((List.mem_append.1 hf).elim (λ h=>List.mem_append_right _ h) (λ h=>List.mem_append_left _ h)))) (λ x73 h73=>?_);refine aH ?_)
  all_goals
   refine eF [74,75,76,77,78,79,80,81,82,83,84,85,86,87,88,89,90,91,92,93,94,95,96,97,98] (λ u:Nat×Wd=>[]) (λ u=>Px m (8+134217920*(y.i+1)) (1048576+(y.i+1)) (y.i+1) u.2) (λ u=>(x7,.cells ⟨Rb (({x48 with Iq:=r.1}:G7).cl q.1 (m:Int))⟩ 89 (0,0))::(x10,Bg a l c u.1)::(x15,lE x11.1 (m:Int) u.2.pt u.2.ts.length u.2.kt u.2.pe (qG u.2.ex).length u.2.ke)::(x11.1,xM u.2.z)::qP x11.1 u.2.ex) (λ u=>aM u.2.z.L) (λ u=>⟨u.2.pt,sS u.2.ts,u.2.kt,29,2⟩::⟨u.2.pe,Be (qG u.2.ex),u.2.ke,74,1⟩::⟨u.2.z.pn,gZ u.2.z.L,u.2.z.cn,47,14⟩::⟨u.2.z.pc,aG u.2.z.cs,u.2.z.cc,37,1⟩::oR u.2.ex) (by decide) (λ _=>by exact rfl) ?_ (λ u f hx=>?_)
   ·refine aV ?_
    refine Ak ?_;refine dC ?_;refine Nf ?_;refine Cx ?_;refine aA ?_
    (refine dZ 80 (λ g80=>?_) (λ g80=>?_)<;>(first|refine aI ?_|(refine aF ?_;refine aA ?_)))
    all_goals ((first|refine aI ?_|(refine aF ?_;refine aD (uG (hc:=λ w1 hw=>eH 3 (hw.tape cQ fin hl) (by decide) (by decide))) (λ x82 h82=>?_)));refine vA ?_;refine aH ?_)
    all_goals
    refine bB (λ c84=>?_) (λ c84=>?_)
    ·try exact nv c84
     all_goals (refine dI [(0,[]),(1,[]),(2,[]),(3,[]),(4,[]),(5,[]),(6,[]),(7,[]),(8,[]),(9,[]),(10,[3]),(11,[]),(12,[]),(13,[])] ?_;refine T6 ?_;refine W9 ?_;refine oA ?_;refine aZ (i:=10) (hq:=(uG (hc:=λ w1 hw=>eH ((qG x73.1.ex).length:Nat) (hw.tape cQ fin hl) (by omega) (by rw[Ux];have:=h73.1.el;omega)))) (h:=λ x95 h95=>?_);refine bQ (i:=11) (hq:=(ud (cs:=Be (qG x73.1.ex)) (k:=x95) rf rf fU fK (.own (.tail .head)) (by omega) (by rw[Hf];omega))) (h:=?_);refine bQ (i:=12) (hq:=(Hr (cs:=Be (qG x73.1.ex)) (v:=.pointer (some ⟨(qG x73.1.ex).getD x95 0,0,none⟩)) rf fK (.own (.tail .head)) (wh (by omega)))) (h:=?_);refine aZ (i:=13) (hq:=(cT 2 0 (hs:=wH m x15 x11.1 x73.1) (os:=wO x73.1) (A0:=aM x73.1.z.L) (F1:=λ x:Wd×List aP=>aM x.1.z.L) (hc:=λ w hs=>Zp (i:=x95) (by rw[<- Ux];omega) (by omega) (by omega) hm h73.1 (λ f hf=>hf) hs) (hA:=aY.of λ f hf=>.inr (.inr (.inl hf))) (hF1:=λ x hx f hf=>by rw[hx.2.2,dB] at hf;exact .inr ((List.mem_append.1 hf).elim (λ h=>List.mem_append_right _ h) (λ h=>List.mem_append_left _ h))))) (h:=λ x98 h98=>?_);refine dW ?_)
     all_goals
      refine eW ((kG l (kG l s.2),x98.1)) ?_ (hw1:=λ w hw=>hw.back (hF:=aX.all))
      ·exact h98.1.mono (by omega) (by omega) (Nat.le_refl _)
    ·all_goals try (exfalso;omega)
     all_goals refine bA ?_
     all_goals
      refine eW (by first|exact((λ _=>(kG l s.2,x73.1)) x82)|exact(s.2,x73.1)) ?_ (hw1:=λ w hw=>hw.back (hF:=aX.all))
      ·exact h73.1.mono (by omega) (by omega) (Nat.le_refl _)
   dsimp only[gX,List.map,List.cons_append,List.nil_append]
  all_goals (refine fH ?_;refine uJ ?_)
  all_goals
   refine iP (⟨y.i+1,u.1,u.2⟩) ?_ (hw1:=λ w hw=>hw.back (hF:=aX.all))
   ·exact⟨by show y.i+1<=18;omega,hx⟩
 ·all_goals try (exfalso;omega)
  all_goals (refine bM rfl ?_;refine J2 ?_;refine J1 ?_)
  all_goals
   refine aS Tryz.results19 (λ w hw=>?_)
   exact⟨(x15,x11.1,m,y.W),rfl,⟨hm,hy.ok.mono (by have:=hy.hi;omega) (by have:=hy.hi;omega) hy.hi⟩,hw.aU (hH:=List.Sublist.cons _ (List.Sublist.refl _)) (hF:=by exact aX.all) (hO:=List.Sublist.refl _)⟩
end Go.Proofs.YtbajmaoegmbfgaaGreat
