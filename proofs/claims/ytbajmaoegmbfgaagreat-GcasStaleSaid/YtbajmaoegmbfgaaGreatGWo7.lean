/- Merged. -/
import Derived.Test.YtbajmaoegmbfgaaGreatGWo6
import Derived.Test.YtbajmaoegmbfgaaGreatGQw1
import Derived.Test.YtbajmaoegmbfgaaGreatGBr6
import Derived.Test.YtbajmaoegmbfgaaGreatGAr9
set_option linter.unusedSimpArgs false
set_option linter.unusedVariables false
namespace Go.Proofs.YtbajmaoegmbfgaaGreat
open Go.Proofs.Tryz (prog)
open Go Go.RowKit Go.Ct
section
theorem Wh(x y:AX)(acc:Int)(pn:Option Addr)(cn:Nat)(pc:Option Addr)(cc:Nat):(XS.new (L4 x y) [0,3,4] 1 acc pn cn pc cc).Ok:=by
 have hmem:∀v∈L4 x y,v=fF∨v=nM Zs [] [] 0 x∨v=nM (xe 1) [] [] 1 y:=λ v hv=>by
  simp[L4] at hv
  exact hv
 refine⟨λ v hv=>?_,λ v hv=>?_,λ v hv=>?_,(λ v hv=>nomatch hv),(λ v hv=>nomatch hv),by show 2<=4;decide,by show 4<=_;decide,by show 3<=_;decide,Nat.zero_le _,Nat.le_refl _,Nat.le_refl _,Nat.le_refl _,Nat.le_refl _,Nat.zero_le _,λ v hv=>?_,by show(0:Int)<=1;decide,(λ i j _ hj=>absurd hj (Nat.not_lt_zero j)),(λ v hv=>nomatch hv)⟩
 ·rcases hmem v hv with rfl|rfl|rfl
  ·exact⟨rfl,rfl,by decide,by decide⟩
  ·exact Lg (by decide) (by decide)
  ·exact Lg (by decide) (by decide)
 ·have z:(0:Int)<=((4:Nat):Int):=by decide
  have z3:(0:Int)<=((3:Nat):Int):=by decide
  rcases hmem v hv with rfl|rfl|rfl
  ·exact⟨z,z,z,(λ r hr=>nomatch hr),z3,z3,z3,jL,jL⟩
  ·exact⟨z,z,z,(λ r hr=>nomatch hr),z3,by show(1:Int)<=((3:Nat):Int);decide,z3,jL,jL⟩
  ·exact⟨z,z,z,(λ r hr=>nomatch hr),by show(2:Int)<=((3:Nat):Int);decide,z3,z3,jL,jL⟩
 ·have hv':v=0∨v=3∨v=4:=by simpa[XS.new] using hv
  show v<=((4:Nat):Int)
  omega
 ·rcases hmem v hv with rfl|rfl|rfl<;>exact Nat.zero_le _
def kinds:List Int:=[8,8,8,9,9,10,11,12,7,8]
theorem j6{v:Nat}(h:v<10):7<=kinds.getD v 0/\kinds.getD v 0<=12:=by
 have:v=0∨v=1∨v=2∨v=3∨v=4∨v=5∨v=6∨v=7∨v=8∨v=9:=by omega
 rcases this with rfl|rfl|rfl|rfl|rfl|rfl|rfl|rfl|rfl|rfl<;>decide
theorem jl{v:Nat}(h:v<10):∃m:Nat,A9.getD v 0=(m:Int)/\m<18446744073709551616:=by
 have:v=0∨v=1∨v=2∨v=3∨v=4∨v=5∨v=6∨v=7∨v=8∨v=9:=by omega
 refine⟨(A9.getD v 0).toNat,?_⟩
 rcases this with rfl|rfl|rfl|rfl|rfl|rfl|rfl|rfl|rfl|rfl<;>decide
theorem Cs.mono{m B C E B' C' E':Nat}{W:Wd}(h:Cs m B C E W)(hB:B<=B')(hC:C<=C')(hE:E<=E'):Cs m B' C' E' W:=by
 obtain⟨s1,s2,s3⟩:=h.sz
 exact⟨h.z,⟨by omega,by omega,by omega⟩,λ e he=>by have:=h.ex e he;exact⟨this.i,this.k,this.em,this.ht,this.ha,by have:=this.gl;omega⟩,h.t0,h.tr,h.tl,by have:=h.el;omega,h.wr⟩
section
variable{S:List (Nat×Value)}{w0 w:World}{M:List Nat}{H:List (Nat×Obj)}{A F:Fr}{O:List Ow}{ty:TypeId}{pos:String}{af:Array Edge}{gd:Option (Nat×Bool)}{X:Type}{V:X->Value}
theorem cT(nH nO:Nat){φ:X->Prop}{hs:List (Nat×Obj)}{os:List Ow}{hs' H1:X->List (Nat×Obj)}{os' O1:X->List Ow}{Fc F1:X->Fr}{A0:Fr}{f:FuncId}{xs:List Operand}{at_:Array TypeId}{vs:List Value}{dst:Option Nat}
  (hc:∀w,SF w (Ks hs os) hs A0 [] os w->Calls prog f ⟨vs⟩ w λ e w'=>∃x,e=.returned (V x)/\φ x/\SF w (Ks hs os) (hs' x) [] (Fc x) (os' x) w')
  (hA:bG A F (O.take nO) A0) (hF1:∀x,φ x->∀f∈F1 x,f.2=[]∨f∈Fc x++F)
  (ha:qX S xs=vs:=by(repeat (first|exact dI _|(apply cL;focus ((conv=>{lhs;whnf});try exact rfl))));first|done|fail) (hp:plain prog f=true:=by kernel_rfl)
  (hH:H=H.take nH++hs:=by exact rfl) (hO:O=O.take nO++os:=by exact rfl)
  (hH1:∀x,H.take nH++hs' x=H1 x:=by intro x;simp only[List.take_succ_cons,List.take_zero,List.cons_append,List.nil_append,wH];exact rfl) (hO1:∀x,O.take nO++os' x=O1 x:=by intro x;simp only[List.take_succ_cons,List.take_zero,List.cons_append,List.nil_append,wO];exact rfl) :
  bF prog S (SF w0 M H A F O) ⟨dst,.call {callee:=.value (.func f),args:=⟨xs⟩,argTypes:=at_},ty,pos,af,gd⟩ X V (λ x w=>φ x/\SF w0 M (H1 x) A (F1 x) (O1 x) w) :=
 iA (mS hp ha) λ w hw=>(E0 (H':=H.take nH) (O':=O.take nO) hw ((List.Perm.of_eq hH).trans List.perm_append_comm) ((List.Perm.of_eq hO).trans List.perm_append_comm) hA (hc w)).mono λ _ _ ⟨x,he,hx,hs⟩=>⟨x,he,hx,by
  have h2:=(hs.perm (H':=H1 x) (O':=O1 x) (by rw[<- hH1 x];exact List.perm_append_comm) (by rw[<- hO1 x];exact List.perm_append_comm)).eW (hF1 x hx)
  exact h2⟩
end
theorem Af(l:List EX):(nL l).length=l.length:=by simp[nL]
theorem fp{es:List Nat}{k:Nat}(h:k<es.length):(yP es)[k]?=some (.pointer (some ⟨es.getD k 0,0,none⟩)):=by
 simp[yP,iM,h]
structure WY where
 i:Nat
 pos:Nat
 W:Wd
structure WYI(m:Nat)(y:WY):Prop where
 hi:y.i<=18
 ok:Cs m (8+134217920*y.i) (1048576+y.i) y.i y.W
theorem Pz.I5{kind:Int}{ts:List dL}{q:Hq}(h:Pz kind ts q)(p:Int):Pz kind ts {q with I5:=p}:=⟨h.ky,h.mem,h.ro⟩
set_option maxRecDepth 100000 in
set_option maxHeartbeats 4000000 in
theorem ay{l:List Int}{a:Option Addr}{c:Nat}{w:World}(ha:Go.Ct.Cl w a (aG l))(hl:l.length<=17592186043904) :
  Calls prog 19 #[.slice a l.length c] w λ e w'=>∃q:Nat×Nat×Nat×Wd,e=.returned (.pointer (some ⟨q.1,0,none⟩))/\(q.2.2.1<18446744073709551616/\Cs q.2.2.1 2415922570 1048594 18 q.2.2.2)/\SF w [] (wH q.2.2.1 q.1 q.2.1 q.2.2.2) [] (aM q.2.2.2.z.L) (wO q.2.2.2) w':=by
 refine enter Tryz.func19 Tryz.ntmps19 rfl rfl (SF.s1 ha) ?_
 simp only[cC]
 refine Kc5 ?_;refine aD (Ul (Fc:=λ _=>[]) (Oc:=λ _=>[]) (hc:=λ w1 hw=>vn)) (λ x10 h10=>?_);refine J1 ?_;refine J0 ?_;refine aD (Ul (Fc:=λ _=>[]) (hc:=λ w1 hw=>nl w1)) (λ x11 h11=>?_);refine aA ?_;refine aD (xA (hc:=λ w1 hw=>aAw (hw.tape dC fin hl))) (λ x13 h13=>?_);refine bN ?_;refine bM (λ x15=>?_);refine zS ?_;refine dF ?_;refine J3 ?_;refine aD (cM (hc:=λ w hs=>Rh hs)) (λ x21 h21=>?_);refine aQ (O3 (sz:=2) (cs:=rZ [⟨3,false⟩]) Hs Jr rfl rfl rfl rfl rfl rfl) (λ x22=>?_);refine Nz ?_;refine aV ?_;refine Ex ?_
 obtain⟨m,em,hm⟩:=jl h13
 refine nT [5,6,7,8,25,26,27,28,29,30,31,32,33,34,35,36,37,38,39,40,41,42,43,44,45,46,47,48,49,50,51,52,53,54,55,56,57,58,59,60,61,62,63,64,65,66,67,68,69,70,71,72,73,74,75,76,77,78,79,80,81,82,83,84,85,86,87,88,89,90,91,92,93,94,95,96,97,98] (λ y:WY=>[(5,.int .i64 ((y.i:Nat):Int))]) (λ y=>WYI m y) (λ y=>(x10,Jo a l c y.pos)::(x15,mR x11.1 (m:Int) y.W.pt y.W.ts.length y.W.kt y.W.pe (nL y.W.ex).length y.W.ke)::(x11.1,xM y.W.z)::Ha x11.1 y.W.ex) (λ y=>aM y.W.z.L) (λ y=>⟨y.W.pt,rZ y.W.ts,y.W.kt,29,2⟩::⟨y.W.pe,yP (nL y.W.ex),y.W.ke,74,1⟩::⟨y.W.z.pn,iJ y.W.z.L,y.W.z.cn,47,14⟩::⟨y.W.z.pc,aG y.W.z.cs,y.W.z.cc,37,1⟩::Db y.W.ex) (λ y=>18-y.i) (⟨0,mX l 0,⟨XS.new (L4 x21.1 x21.2.1) [0,3,4] 1 0 x21.2.1.pn x21.2.1.cn x21.2.2.1 x21.2.2.2,[⟨3,false⟩],some ⟨x22,0,none⟩,1,[],none,0⟩⟩) (⟨by show(0:Nat)<=18;decide,Wh _ _ _ _ _ _ _,⟨by show 4<=8+134217920*0;decide,by show 3<=8+134217920*0;decide,by show(1:Int)<=((8+134217920*0:Nat):Int);decide⟩,(λ e he=>nomatch he),by show 0<1;decide,rfl,by show 1<=5;decide,Nat.le_refl _,.new⟩) (λ y f hx=>?_) (hw0:=λ w hw=>by rw[em,List.append_nil] at hw;exact(hw.jX 74 1).perm (List.perm_append_comm (l₁:=[_]) (l₂:=[_,_])) (List.Perm.swap _ _ _))
 dsimp only[hY,List.map,List.cons_append,List.nil_append]
 have hy:=hx
 refine Kb6 ?_
 (refine eJ 27 (λ g27=>?_) (λ g27=>?_)<;>refine Ka0 ?_)
 all_goals ((first|refine aI ?_|(refine aE ?_;refine aD (xA (hc:=λ w1 hw=>xz (hw.tape dC fin hl))) (λ x29 h29=>?_)));refine cD ?_;refine aH ?_)
 all_goals
 refine bC (λ c30=>?_) (λ c30=>?_)
 ·try exact nv c30
  all_goals (refine rX ?_;refine J0 ?_;refine aQ ((by exact Ma (λ _=>cQ (cs:=aG kinds) Hv Jr rfl rfl rfl rfl rfl))) (λ x33=>?_);refine aA ?_;refine aD (xA (hc:=λ w1 hw=>eR 10 (hw.tape dC fin hl) (by decide) (by decide))) (λ x35 h35=>?_);refine aC (dH (lst:=kinds) (k:=x35) rf rf gE fW (.new .head) (by omega) (by simp only[kinds,List.length_cons,List.length_nil];omega)) rfl ?_;refine aC (eX (lst:=kinds) (q:=x35) rf fW (.new .head) (by simp only[kinds,List.length_cons,List.length_nil];omega)) rfl ?_;refine jF ?_)
  all_goals
   refine eO [6,38,39,40,41,42,43,44] (λ q:Int×Nat=>[(6,.int .i64 q.1)]) (λ q=>7<=q.1/\q.1<=12) (λ q=>(x10,Jo a l c q.2)::(x15,mR x11.1 (m:Int) y.W.pt y.W.ts.length y.W.kt y.W.pe (nL y.W.ex).length y.W.ke)::(x11.1,xM y.W.z)::Ha x11.1 y.W.ex) (λ _=>aM y.W.z.L) (λ _=>⟨y.W.pt,rZ y.W.ts,y.W.kt,29,2⟩::⟨y.W.pe,yP (nL y.W.ex),y.W.ke,74,1⟩::⟨y.W.z.pn,iJ y.W.z.L,y.W.z.cn,47,14⟩::⟨y.W.z.pc,aG y.W.z.cs,y.W.z.cc,37,1⟩::Db y.W.ex) (by decide) (λ _=>by exact rfl) ?_ (λ q f hx=>?_)
   ·refine aV ?_
    refine zG ?_;refine mF ?_;refine aA ?_
    (refine eJ 40 (λ g40=>?_) (λ g40=>?_)<;>refine Ka0 ?_)
    all_goals ((first|refine aI ?_|(refine aE ?_;refine aD (xA (hc:=λ w1 hw=>eR 3 (hw.tape dC fin hl) (by decide) (by decide))) (λ x42 h42=>?_)));refine Ka6 ?_)
    all_goals
    refine bC (λ c44=>?_) (λ c44=>?_)
    ·try exact nv c44
     all_goals (refine dM ?_;refine J1 ?_)
     all_goals
      refine fH ((8,mX l (mX l y.pos))) ?_ (hw1:=λ w hw=>hw.back (hF:=aY.jH λ f hf=>List.mem_cons_of_mem _ hf))
      ·exact⟨by show(7:Int)<=8;decide,by show(8:Int)<=12;decide⟩
    ·all_goals try (exfalso;omega)
     all_goals refine aZ ?_
     all_goals
      refine fH (by first|exact((λ _=>(kinds.getD x35 0,mX l (mX l y.pos))) x42)|exact(kinds.getD x35 0,mX l y.pos)) ?_ (hw1:=λ w hw=>hw.back (hF:=aY.jH λ f hf=>List.mem_cons_of_mem _ hf))
      ·exact j6 (by omega)
   dsimp only[hY,List.map,List.cons_append,List.nil_append]
   have hq:=hx
  all_goals (refine Kc2 ?_;refine aD (cM (hs:=[(x10,Jo a l c q.2),(x15,mR x11.1 (m:Int) y.W.pt y.W.ts.length y.W.kt y.W.pe (nL y.W.ex).length y.W.ke)]) (os:=[⟨y.W.pt,rZ y.W.ts,y.W.kt,29,2⟩]) (A0:=[(a,aG l)]) (hc:=λ w hs=>qv q.1 hq hl hy.ok.t0 (by have:=hy.ok.tl;omega) hy.ok.tr hs)) (λ x48 h48=>?_);refine aK (λ x7=>?_);refine J5 ?_;refine aV ?_)
  all_goals
   refine eO [49,50,51,52,53,54,55,56] (λ r:Int×Nat=>[]) (λ r=>True) (λ r=>(x7,.cells ⟨Ry (({x48 with I5:=r.1}:Hq).cl q.1 (m:Int))⟩ 89 (0,0))::(x10,Jo a l c r.2)::(x15,mR x11.1 (m:Int) y.W.pt y.W.ts.length y.W.kt y.W.pe (nL y.W.ex).length y.W.ke)::(x11.1,xM y.W.z)::Ha x11.1 y.W.ex) (λ _=>aM y.W.z.L) (λ _=>⟨y.W.pt,rZ y.W.ts,y.W.kt,29,2⟩::⟨y.W.pe,yP (nL y.W.ex),y.W.ke,74,1⟩::⟨y.W.z.pn,iJ y.W.z.L,y.W.z.cn,47,14⟩::⟨y.W.z.pc,aG y.W.z.cs,y.W.z.cc,37,1⟩::Db y.W.ex) (by decide) (λ _=>by exact rfl) ?_ (λ r f hx=>?_)
   ·refine aV ?_
    refine zG ?_;refine mF ?_;refine aA ?_
    (refine eJ 51 (λ g51=>?_) (λ g51=>?_)<;>refine Ka0 ?_)
    all_goals ((first|refine aI ?_|(refine aE ?_;refine aD (xA (hc:=λ w1 hw=>eR 3 (hw.tape dC fin hl) (by decide) (by decide))) (λ x53 h53=>?_)));refine Ka6 ?_)
    all_goals
    refine bC (λ c55=>?_) (λ c55=>?_)
    ·try exact nv c55
     all_goals (refine dM ?_;refine uM ?_)
     all_goals
      refine fH ((0,mX l x48.pos)) ?_ (hw1:=λ w hw=>hw.v6)
      ·trivial
    ·all_goals try (exfalso;omega)
     all_goals refine aZ ?_
     all_goals
      refine fH (by first|exact((λ _=>(x48.I5,mX l x48.pos)) x53)|exact(x48.I5,x48.pos)) ?_ (hw1:=λ w hw=>hw.v6)
      ·trivial
   dsimp only[hY,List.map,List.cons_append,List.nil_append]
  all_goals refine Hg ?_
  all_goals
   refine eO [8,57,58,59,60,61,62,63,64,65,66,67,68,69] (λ s:Nat×Nat=>[(8,.int .i64 ((s.1:Nat):Int))]) (λ s=>s.1<=1048576) (λ s=>(x7,.cells ⟨Ry (({x48 with I5:=r.1}:Hq).cl q.1 (m:Int))⟩ 89 (0,0))::(x10,Jo a l c s.2)::(x15,mR x11.1 (m:Int) y.W.pt y.W.ts.length y.W.kt y.W.pe (nL y.W.ex).length y.W.ke)::(x11.1,xM y.W.z)::Ha x11.1 y.W.ex) (λ _=>aM y.W.z.L) (λ _=>⟨y.W.pt,rZ y.W.ts,y.W.kt,29,2⟩::⟨y.W.pe,yP (nL y.W.ex),y.W.ke,74,1⟩::⟨y.W.z.pn,iJ y.W.z.L,y.W.z.cn,47,14⟩::⟨y.W.z.pc,aG y.W.z.cs,y.W.z.cc,37,1⟩::Db y.W.ex) (by decide) (λ _=>by exact rfl) ?_ (λ s f hx=>?_)
   ·refine aV ?_
    refine zG ?_;refine dF ?_;refine Rr ?_;refine Cv ?_
    (refine eJ 63 (λ g63=>?_) (λ g63=>?_)<;>refine Ka0 ?_)
    all_goals ((first|refine aI ?_|(refine aE ?_;refine aD (xA (hc:=λ w1 hw=>eR 4 (hw.tape dC fin hl) (by decide) (by decide))) (λ x65 h65=>?_)));refine wX ?_;refine aH ?_)
    all_goals
    refine bC (λ c67=>?_) (λ c67=>?_)
    ·try exact nv c67
     all_goals (refine zG ?_;refine aD (xA (hc:=λ w1 hw=>eR 16 (hw.tape dC fin hl) (by decide) (by decide))) (λ x69 h69=>?_);refine J1 ?_)
     all_goals
      refine fH ((x69,mX l (mX l r.2))) ?_ (hw1:=λ w hw=>hw.v6)
      ·show x69<=1048576;omega
    ·all_goals try (exfalso;omega)
     all_goals refine aZ ?_
     all_goals
      refine fH (by first|exact((λ _=>(1048576,mX l r.2)) x65)|exact(1048576,r.2)) ?_ (hw1:=λ w hw=>hw.v6)
      ·exact Nat.le_refl 1048576
   dsimp only[hY,List.map,List.cons_append,List.nil_append]
   have hs1:=hx
  all_goals (refine Kb3 ?_;refine aA ?_;refine aD (cT 2 0 (hs:=wH m x15 x11.1 y.W) (os:=wO y.W) (A0:=aM y.W.z.L) (F1:=λ x:Wd×List aP=>aM x.1.z.L) (hc:=λ w hs=>oz (q:={x48 with I5:=r.1}) (kind:=q.1) s.1 hs1 (by omega) (by omega) hm hy.ok (by omega) hq (h48.I5 _) (λ f hf=>hf) hs) (hA:=bG.of λ f hf=>.inr (.inr (.inl hf))) (hF1:=λ x hx f hf=>by rw[hx.2,dD] at hf;exact .inr ((List.mem_append.1 hf).elim (λ h=>List.mem_append_right _ h) (λ h=>List.mem_append_left _ h)))) (λ x73 h73=>?_);refine aH ?_)
  all_goals
   refine eO [74,75,76,77,78,79,80,81,82,83,84,85,86,87,88,89,90,91,92,93,94,95,96,97,98] (λ u:Nat×Wd=>[]) (λ u=>Cs m (8+134217920*(y.i+1)) (1048576+(y.i+1)) (y.i+1) u.2) (λ u=>(x7,.cells ⟨Ry (({x48 with I5:=r.1}:Hq).cl q.1 (m:Int))⟩ 89 (0,0))::(x10,Jo a l c u.1)::(x15,mR x11.1 (m:Int) u.2.pt u.2.ts.length u.2.kt u.2.pe (nL u.2.ex).length u.2.ke)::(x11.1,xM u.2.z)::Ha x11.1 u.2.ex) (λ u=>aM u.2.z.L) (λ u=>⟨u.2.pt,rZ u.2.ts,u.2.kt,29,2⟩::⟨u.2.pe,yP (nL u.2.ex),u.2.ke,74,1⟩::⟨u.2.z.pn,iJ u.2.z.L,u.2.z.cn,47,14⟩::⟨u.2.z.pc,aG u.2.z.cs,u.2.z.cc,37,1⟩::Db u.2.ex) (by decide) (λ _=>by exact rfl) ?_ (λ u f hx=>?_)
   ·refine aV ?_
    refine zG ?_;refine dF ?_;refine Rr ?_;refine Df ?_;refine aA ?_
    (refine eJ 80 (λ g80=>?_) (λ g80=>?_)<;>refine Ka0 ?_)
    all_goals ((first|refine aI ?_|(refine aE ?_;refine aD (xA (hc:=λ w1 hw=>eR 3 (hw.tape dC fin hl) (by decide) (by decide))) (λ x82 h82=>?_)));refine wX ?_;refine aH ?_)
    all_goals
    refine bC (λ c84=>?_) (λ c84=>?_)
    ·try exact nv c84
     all_goals (refine eC [(0,[]),(1,[]),(2,[]),(3,[]),(4,[]),(5,[]),(6,[]),(7,[]),(8,[]),(9,[]),(10,[3]),(11,[]),(12,[]),(13,[])] ?_;refine bj ?_;refine Wf ?_;refine oI ?_;refine bB (i:=10) (hq:=(xA (hc:=λ w1 hw=>eR ((nL x73.1.ex).length:Nat) (hw.tape dC fin hl) (by omega) (by rw[Af];have:=h73.1.el;omega)))) (h:=λ x95 h95=>?_);refine bV (i:=11) (hq:=(j8 (cs:=yP (nL x73.1.ex)) (k:=x95) rf rf gE fW (.own (.tail .head)) (by omega) (by rw[zF];omega))) (h:=?_);refine bV (i:=12) (hq:=(j9 (cs:=yP (nL x73.1.ex)) (v:=.pointer (some ⟨(nL x73.1.ex).getD x95 0,0,none⟩)) rf fW (.own (.tail .head)) (fp (by omega)))) (h:=?_);refine bB (i:=13) (hq:=(cT 2 0 (hs:=wH m x15 x11.1 x73.1) (os:=wO x73.1) (A0:=aM x73.1.z.L) (F1:=λ x:Wd×List aP=>aM x.1.z.L) (hc:=λ w hs=>ah (i:=x95) (by rw[<- Af];omega) (by omega) (by omega) hm h73.1 (λ f hf=>hf) hs) (hA:=bG.of λ f hf=>.inr (.inr (.inl hf))) (hF1:=λ x hx f hf=>by rw[hx.2.2,dD] at hf;exact .inr ((List.mem_append.1 hf).elim (λ h=>List.mem_append_right _ h) (λ h=>List.mem_append_left _ h))))) (h:=λ x98 h98=>?_);refine eL ?_)
     all_goals
      refine fH ((mX l (mX l s.2),x98.1)) ?_ (hw1:=λ w hw=>hw.v6)
      ·exact h98.1.mono (by omega) (by omega) (Nat.le_refl _)
    ·all_goals try (exfalso;omega)
     all_goals refine aZ ?_
     all_goals
      refine fH (by first|exact((λ _=>(mX l s.2,x73.1)) x82)|exact(s.2,x73.1)) ?_ (hw1:=λ w hw=>hw.v6)
      ·exact h73.1.mono (by omega) (by omega) (Nat.le_refl _)
   dsimp only[hY,List.map,List.cons_append,List.nil_append]
  all_goals (refine Kb2 ?_)
  all_goals
   refine iS (⟨y.i+1,u.1,u.2⟩) ?_ (hw1:=λ w hw=>hw.v6)
   ·exact⟨by show y.i+1<=18;omega,hx⟩
 ·all_goals try (exfalso;omega)
  all_goals (refine bP rfl ?_;refine Ka4 ?_)
  all_goals
   refine aR Tryz.results19 (λ w hw=>?_)
   exact⟨(x15,x11.1,m,y.W),rfl,⟨hm,hy.ok.mono (by have:=hy.hi;omega) (by have:=hy.hi;omega) hy.hi⟩,hw.aX (hH:=List.Sublist.cons _ (List.Sublist.refl _)) (hF:=by exact aY.all) (hO:=List.Sublist.refl _)⟩
end
section
def Ru(ex:List EX)(i:Nat):Bool:=(ex.map EX.dn).getD i true
def rE(ex:List EX)(i:Nat):Tr:=(ex.map EX.R).getD i .stuck
section
variable{m B C E bw bm:Nat}{D:List Nat}{A:Fr}{w:World}{H:ByteArray->Nat}
theorem zO{α β:Type}(f:α->β)(l1 l2:List α)(e:α)(d:β):((l1++e::l2).map f).getD l1.length d=f e:=by simp
theorem aAn{α β:Type}(f:α->β)(l1 l2:List α)(e e':α)(d:β){k:Nat}(hk:k≠l1.length):((l1++e::l2).map f).getD k d=((l1++e'::l2).map f).getD k d:=by
 simp only[List.map_append,List.map_cons,iM]
 by_cases h:k<l1.length
 ·rw[List.getElem?_append_left (by simpa using h),List.getElem?_append_left (by simpa using h)]
 ·rw[List.getElem?_append_right (by simpa using h),List.getElem?_append_right (by simpa using h)]
  obtain⟨j,hj⟩:∃j,k-(l1.map f).length=j+1:=⟨k-l1.length-1,by rw[List.length_map];omega⟩
  rw[hj]
  rfl
theorem gy{W:Wd}{i:Nat}(hi:i<W.ex.length)(hs:SF w D (wH m bw bm W) A [] (wO W) w) :
  Calls prog 69 #[.pointer (some ⟨(nL W.ex).getD i 0,0,none⟩)] w λ e w'=>∃q:Unit,e=.returned (.bool (Ru W.ex i))/\True/\SF w D (wH m bw bm W) [] [] (wO W) w':=by
 obtain⟨l1,e,l2,hl,hi1⟩:=Gn hi
 have hb:(nL W.ex).getD i 0=e.b:=by rw[hl,<- hi1];exact zO _ _ _ _ _
 have hd:Ru W.ex i=e.dn:=by unfold Ru;rw[hl,<- hi1];exact zO _ _ _ _ _
 rw[hb,hd]
 have pH:=xx (m:=m) (bw:=bw) (bm:=bm) hl
 have pO:=aAd hl
 have key:=E0 (P:=prog) (f:=69) (vs := #[.pointer (some ⟨e.b,0,none⟩)]) (V:=λ _:Unit=>.bool e.dn) (φ:=λ _=>True) (hs:=xH e.k e.b bm (XS.wm e.x W.z) e.dn e.rs) (os:=xW (XS.wm e.x W.z)) (hs':=λ _=>xH e.k e.b bm (XS.wm e.x W.z) e.dn e.rs) (os':=λ _=>xW (XS.wm e.x W.z)) (Fc:=λ _=>[]) (A0:=[]) hs pH pO bG.nil (λ h=>Tm h)
 refine key.mono λ e w' ⟨q,e1,h1,hw⟩=>⟨q,e1,h1,?_⟩
 rw[List.append_nil] at hw
 exact hw.noA.perm pH pO
structure FX where
 i:Nat
 c:Nat
 z:XS
 ex:List EX
 N:List aP
structure pb(m B C E:Nat)(W:Wd)(y:FX):Prop where
 ok:Cs m (B+128*(8001*y.i+y.c)) (C+(8001*y.i+y.c)) E (W.go y.z y.ex)
 L:y.z.L=W.z.L++y.N
 b:nL y.ex=nL W.ex
 dn:∀k,k<y.i->Ru y.ex k=true
structure zj(m B C E:Nat)(W:Wd)(y:FX):Prop extends pb m B C E W y where
 lt:y.i<y.ex.length
 c:y.c<=8000
 fin:Ru y.ex y.i=true∨Fin (H8 m) (rE y.ex y.i) y.z.mm (8000-y.c)
theorem pb.len{W:Wd}{y:FX}(h:pb m B C E W y):y.ex.length=W.ex.length:=by
 have:=congrArg List.length h.b
 simpa[nL] using this
theorem pb.begin{W:Wd}{y:FX}(h:pb m B C E W y)(hc:y.c=0)(hi:y.i<y.ex.length):zj m B C E W y:=by
 refine⟨h,hi,by omega,.inr ?_⟩
 obtain⟨l1,e,l2,hl,hi1⟩:=Gn hi
 have hR:rE y.ex y.i=e.R:=by unfold rE;rw[hl,<- hi1];exact zO _ _ _ _ _
 have w1:WR (H8 m) m y.z.mm W.ts (y.ex.map EX.R):=h.ok.wr
 rw[hl,List.map_append,List.map_cons] at w1
 rw[hR,hc]
 exact(w1.perm List.perm_middle).fin
theorem zj.step{W:Wd}{y:FX}{q:XS×List EX×List aP}(h:zj m B C E W y)(hd:Ru y.ex y.i=false)
  (hq:Cs m (B+128*(8001*y.i+y.c)+128) (C+(8001*y.i+y.c)+1) E ((W.go y.z y.ex).go q.1 q.2.1)/\q.1.L=(W.go y.z y.ex).z.L++q.2.2/\StX (W.go y.z y.ex) y.i q.1 q.2.1):zj m B C E W ⟨y.i,y.c+1,q.1,q.2.1,y.N++q.2.2⟩:=by
 obtain⟨ok,hL,l1,e,e',l2,hl,hi1,hl',hb,hst⟩:=hq
 have hl:y.ex=l1++e::l2:=hl
 have e1:Ru y.ex y.i=e.dn:=by unfold Ru;rw[hl,<- hi1];exact zO _ _ _ _ _
 have e2:rE y.ex y.i=e.R:=by unfold rE;rw[hl,<- hi1];exact zO _ _ _ _ _
 have e3:Ru q.2.1 y.i=e'.dn:=by unfold Ru;rw[hl',<- hi1];exact zO _ _ _ _ _
 have e4:rE q.2.1 y.i=e'.R:=by unfold rE;rw[hl',<- hi1];exact zO _ _ _ _ _
 have hfin:=h.fin.resolve_left (by rw[hd];decide)
 rw[e2] at hfin
 rw[e1] at hd
 have he:EOk m (C+(8001*y.i+y.c)) y.z e:=h.ok.ex e (by show e∈y.ex;rw[hl];simp)
 have hacc:e.R.acc=some (XS.wm e.x y.z).nx:=by
  rcases he.i.Zp with⟨h1,_⟩|⟨_,h1⟩
  ·rw[hd] at h1;cases h1
  ·exact h1
 have hpos:=hfin.pos hacc
 rcases hst with⟨h1,_⟩|⟨_,j,hj,hj1,hrc⟩
 ·rw[hd] at h1;cases h1
 refine⟨⟨ok.mono (by show _<=B+128*(8001*y.i+(y.c+1));omega) (by show _<=C+(8001*y.i+(y.c+1));omega) (Nat.le_refl _),by rw[hL];show y.z.L++q.2.2=_;rw[h.L,List.append_assoc],?_,λ k hk=>?_⟩,?_,by show y.c+1<=8000;omega,?_⟩
 ·show nL q.2.1=_
  rw[<- h.b,hl',hl]
  simp[nL,hb]
 ·have hk:k<y.i:=hk
  have:=h.dn k hk
  show Ru q.2.1 k=true
  unfold Ru at this ⊢
  rw[hl',aAn EX.dn l1 l2 e' e true (by omega),<- hl]
  exact this
 ·show y.i<q.2.1.length
  rw[hl',<- hi1]
  simp
 ·show Ru q.2.1 y.i=true∨Fin (H8 m) (rE q.2.1 y.i) q.1.mm (8000-(y.c+1))
  rw[e3,e4]
  cases hdn:e'.dn with
  | true=>exact .inl rfl
  | false =>
   obtain⟨m',em,hf⟩:=hfin.rc hrc
   rw[hj1 hdn] at em
   exact .inr (by rw[show 8000-(y.c+1)=m' by omega];exact hf)
theorem zj.next{W:Wd}{y:FX}(h:zj m B C E W y)(hd:Ru y.ex y.i=true):pb m B C E W ⟨y.i+1,0,y.z,y.ex,y.N⟩ :=
 ⟨h.ok.mono (by have:=h.c;show _<=B+128*(8001*(y.i+1)+0);omega) (by have:=h.c;show _<=C+(8001*(y.i+1)+0);omega) (Nat.le_refl _),h.L,h.b,λ k hk=>by
  by_cases e:k=y.i
  ·rw[e];exact hd
  ·exact h.dn k (by have:k<y.i+1:=hk;omega)⟩
theorem WR.U3{s:Mm}{ts:List dL}:∀{rs:List Tr},WR H m s ts rs->(∀t∈rs,∃r,t=.done r)->WR H m s ts []
 | [],h,_=>h
 | t::rs,h,hd=>by
  obtain⟨r,e⟩:=hd t (List.mem_cons_self ..)
  subst e
  exact WR.U3 h.drop λ t ht=>hd t (List.mem_cons_of_mem _ ht)
theorem pb.end{W:Wd}{y:FX}(h:pb m B C E W y)(hi:y.ex.length<=y.i)(hiE:y.i<=E)(hc:y.c=0):Cs m (B+1024128*E) (C+8001*E) 0 ⟨y.z,W.ts,W.pt,W.kt,[],none,0⟩:=by
 have ok:=h.ok.mono (B':=B+1024128*E) (C':=C+8001*E) (by rw[hc];omega) (by rw[hc];omega) (Nat.le_refl _)
 refine⟨ok.z,ok.sz,(λ e he=>nomatch he),ok.t0,ok.tr,ok.tl,Nat.le_refl _,WR.U3 ok.wr λ t ht=>?_⟩
 obtain⟨e,he,rfl⟩:=List.mem_map.1 ht
 have hk:=ok.ex e he
 obtain⟨k,hk1,hk2⟩:=List.getElem_of_mem he
 have hd:Ru y.ex k=true:=h.dn k (by have:k<y.ex.length:=hk1;omega)
 have hd2:e.dn=true:=by
  unfold Ru at hd
  rw[iM,List.getElem?_map,List.getElem?_eq_getElem hk1] at hd
  rw[<- hk2];exact hd
 rcases hk.i.Zp with⟨_,h2⟩|⟨h1,_⟩
 ·exact⟨e.rs,h2⟩
 ·rw[hd2] at h1;cases h1
set_option maxRecDepth 100000 in
set_option maxHeartbeats 2000000 in
theorem m8{W:Wd}(hE:E<=1000)(hC:C<=100000000)(hB:B<=10000000000)(hm:m<18446744073709551616)(hW:Cs m B C E W)(hA:∀f∈aM W.z.L,f∈A)(hs:SF w D (wH m bw bm W) A [] (wO W) w) :
  Calls prog 20 #[.pointer (some ⟨bw,0,none⟩)] w λ e w'=>∃r:XS×List aP,e=.returned (.tuple #[])/\(Cs m (B+1024128*E) (C+8001*E) 0 ⟨r.1,W.ts,W.pt,W.kt,[],none,0⟩/\r.1.L=W.z.L++r.2)/\SF w D (wH m bw bm ⟨r.1,W.ts,W.pt,W.kt,[],none,0⟩) [] (aM r.2) (wO ⟨r.1,W.ts,W.pt,W.kt,[],none,0⟩) w':=by
 have hel:=hW.el
 have hbl:=Af W.ex
 refine enter Tryz.func20 Tryz.ntmps20 rfl rfl hs ?_
 simp only[cC]
 refine aV ?_;refine mD ?_;refine dR ?_;refine Ip ?_;refine cS ?_
 refine nT [3,9,10,11,12,13,14,15,16,17,18] (λ y:FX=>[(9,.int .i64 ((y.i:Nat):Int))]) (λ y=>pb m B C E W y/\y.i<=E/\y.c=0) (λ y=>wH m bw bm (W.go y.z y.ex)) (λ y=>aM y.N) (λ y=>wO (W.go y.z y.ex)) (λ y=>W.ex.length-y.i) (⟨0,0,W.z,W.ex,[]⟩) (⟨⟨hW,by simp,rfl,λ k hk=>absurd hk (Nat.not_lt_zero k)⟩,Nat.zero_le _,rfl⟩) (λ y f hx=>?_)
 dsimp only[hY,List.map,List.cons_append,List.nil_append]
 obtain⟨hy,hyE,hyc⟩:=hx
 have hlen:=hy.len
 refine J0 ?_;refine Aj ?_;refine aV ?_
 refine bC (λ c10=>?_) (λ c10=>?_)
 ·try (exfalso;omega)
  refine rX ?_;refine J0 ?_;refine aC (j8 (cs:=yP (nL y.ex)) (k:=y.i) rf rf gE fW (.own (.tail .head)) (by omega) (by rw[zF,Af,hy.len];omega)) rfl ?_;refine aC (j9 (cs:=yP (nL y.ex)) (v:=.pointer (some ⟨(nL y.ex).getD y.i 0,0,none⟩)) rf fW (.own (.tail .head)) (fp (by rw[Af,hy.len];omega))) rfl ?_;refine J1 ?_;refine cS ?_
  refine nT [13,14,15,16,17] (λ z:FX=>[]) (λ z=>zj m B C E W z/\z.i=y.i) (λ z=>wH m bw bm (W.go z.z z.ex)) (λ z=>aM z.N) (λ z=>wO (W.go z.z z.ex)) (λ z=>8001-z.c) (y) (⟨hy.begin hyc (by omega),rfl⟩) (λ z f hx=>?_) (hw0:=λ w hw=>hw.v6)
  dsimp only[hY,List.map,List.cons_append,List.nil_append]
  obtain⟨hz,hzi⟩:=hx
  have hzc:=hz.c
  have hyi:y.i<W.ex.length:=by omega
  have hzl:=hz.len
  refine kT ?_;refine aD (cT 0 0 (vs:=[.pointer (some ⟨(nL y.ex).getD y.i 0,0,none⟩)]) (hs:=wH m bw bm (W.go z.z z.ex)) (os:=wO (W.go z.z z.ex)) (A0:=[]) (F1:=λ _:Unit=>aM z.N) (hc:=λ w hs=>by rw[show y.i=z.i from hzi.symm,show nL y.ex=nL z.ex from hy.b.trans hz.b.symm];exact gy (W:=W.go z.z z.ex) (i:=z.i) hz.lt hs) (hA:=bG.nil) (hF1:=λ _ _ f hf=>.inr (List.mem_append_right _ hf))) (λ x14 h14=>?_);refine oV ?_
  refine bC (λ c15=>?_) (λ c15=>?_)
  ·try (exfalso;omega)
   refine aZ ?_;refine cS ?_;refine zG ?_;refine aD (cT 0 0 (vs:=[.pointer (some ⟨(nL y.ex).getD y.i 0,0,none⟩)]) (hs:=wH m bw bm (W.go z.z z.ex)) (os:=wO (W.go z.z z.ex)) (A0:=aM z.z.L) (F1:=λ x:XS×List EX×List aP=>aM (z.N++x.2.2)) (hc:=λ w hs=>by rw[show y.i=z.i from hzi.symm,show nL y.ex=nL z.ex from hy.b.trans hz.b.symm];exact Pc (W:=W.go z.z z.ex) (i:=z.i) hz.lt (by omega) (by omega) hm hz.ok (λ f hf=>hf) hs) (hA:=bG.of λ f hf=>by rw[hz.L,dD] at hf;exact(List.mem_append.1 hf).elim (λ h=>.inr (.inl (hA f h))) (λ h=>.inr (.inr (.inl h)))) (hF1:=λ x hx f hf=>by rw[dD] at hf;exact .inr ((List.mem_append.1 hf).elim (λ h=>List.mem_append_right _ h) (λ h=>List.mem_append_left _ h)))) (λ x17 h17=>?_);refine aH ?_;refine fK ?_
   refine iS (⟨z.i,z.c+1,x17.1,x17.2.1,z.N++x17.2.2⟩) ?_ (hw1:=λ w hw=>hw.v6)
   ·exact⟨hz.step (by simpa using c15) h17,hzi⟩
  ·try (exfalso;omega)
   have hzn:=hz.next (by simpa using c15)
   refine Xx ?_;refine a8 ?_;refine Ip ?_
   refine iS (⟨y.i+1,0,z.z,z.ex,z.N⟩) ?_ (hw1:=λ w hw=>hw.v6)
   ·exact⟨by rw[hzi] at hzn;exact hzn,by show y.i+1<=E;omega,rfl⟩
 ·try (exfalso;omega)
  refine bP rfl ?_;refine zG ?_;refine Nz ?_
  refine Cq Tryz.results20 (λ w hw=>?_)
  have hw:=(hw.jX 74 1).perm (List.Perm.refl _) (List.Perm.swap _ _ _)
  exact⟨(y.z,y.N),rfl,⟨hy.end (by rw[hy.len];omega) hyE hyc,hy.L⟩,hw.aX (hH:=by exact .cons_cons _ (.cons_cons _ (List.nil_sublist _))) (hF:=by exact aY.all) (hO:=by exact .cons_cons _ (.cons_cons _ (.cons _ (.cons_cons _ (.cons_cons _ (List.nil_sublist _))))))⟩
end
end
end Go.Proofs.YtbajmaoegmbfgaaGreat
namespace Go.Ct
open Go Go.RowKit
section
theorem qV.Ih{L:List aP}{cs:List Int}{pn pc:Option Addr}{w w0:World}{M:List Nat}{H:List (Nat×Obj)}{F:Fr}{O:List Ow}(h:qV w0 L cs pn pc)(hw:SF w0 M H ((pn,iJ L)::(pc,aG cs)::aM L) F O w):qV w L cs pn pc:=hw.Gm (.inr (.inl (.head _))) (.inr (.inl (.tail _ (.head _)))) (λ f hf=>.inr (.inl (.tail _ (.tail _ hf)))) h.fit
theorem cZ(L:List aP)(r:Int):aS (L.map aP.c) r=(aB L r).c:=(rA L r).symm
end
end Go.Ct
namespace Go.Proofs.YtbajmaoegmbfgaaGreat
open Go Go.RowKit Go.Ct
section
section
variable{L:List aP}{cs:List Int}{gen:Int}{pn pc:Option Addr}{cn cc:Nat}{w:World}
abbrev Iu(L:List aP)(cs:List Int)(gen:Int)(pn:Option Addr)(cn:Nat)(pc:Option Addr)(cc:Nat):Value:=.agg ⟨[.slice pn L.length cn,.slice pc cs.length cc,.int .i64 gen]⟩
structure StB(L:List aP)(cs:List Int):Prop where
 cs:∀c,aW cs c<=9223372036854775807
 bJ:∀r,(aB L r).nd.bJ<=9223372036854775807
 new:∀r,(aB L r).nd.new<=9223372036854775807
 main:∀r,(aB L r).nd.main<=9223372036854775807
 prev:∀r,(aB L r).nd.prev<=9223372036854775807
 status:∀r,(aB L r).nd.status<=9223372036854775807
 br:∀r,∀b∈(aB L r).xs,b<=9223372036854775807
end
end
end Go.Proofs.YtbajmaoegmbfgaaGreat
