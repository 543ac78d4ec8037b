/- Worlds: Worlds. -/
import Derived.Test.YtadnboagdhcedaaGreatDoorGWo4
import Derived.Test.YtadnboagdhcedaaGreatDoorGSh31
import Derived.Test.YtadnboagdhcedaaGreatDoorSh38
import Derived.Test.YtadnboagdhcedaaGreatDoorGSh15

set_option linter.unusedSimpArgs false
set_option linter.unusedVariables false
namespace Go.Proofs.YtadnboagdhcedaaGreatDoor
section
open Go Go.RowKit Go.Ct
theorem aBa(x y:AX)(acc:Int)(pn:Option Addr)(cn:Nat)(pc:Option Addr)(cc:Nat):(XS.new (L4 x y) [0,3,4] 1 acc pn cn pc cc).Ok:=by
 have hmem:∀v∈L4 x y,v=dH∨v=lW Tf [] [] 0 x∨v=lW (wK 1) [] [] 1 y:=λ v hv=>by
  simp[L4] at hv
  exact hv
 refine⟨λ v hv=>?_,λ v hv=>?_,λ v hv=>?_,(λ v hv=>nomatch hv),(λ v hv=>nomatch hv),by show 2<=4;decide,by show 4<=_;decide,by show 3<=_;decide,Nat.zero_le _,Nat.le_refl _,Nat.le_refl _,Nat.le_refl _,Nat.le_refl _,Nat.zero_le _,λ v hv=>?_,by show(0:Int)<=1;decide,(λ i j _ hj=>absurd hj (Nat.not_lt_zero j)),(λ v hv=>nomatch hv)⟩
 ·rcases hmem v hv with rfl|rfl|rfl
  ·exact⟨rfl,rfl,by decide,by decide⟩
  ·exact Kx (by decide) (by decide)
  ·exact Kx (by decide) (by decide)
 ·have z:(0:Int)<=((4:Nat):Int):=by decide
  have z3:(0:Int)<=((3:Nat):Int):=by decide
  rcases hmem v hv with rfl|rfl|rfl
  ·exact⟨z,z,z,(λ r hr=>nomatch hr),z3,z3,z3,jP,jP⟩
  ·exact⟨z,z,z,(λ r hr=>nomatch hr),z3,by show(1:Int)<=((3:Nat):Int);decide,z3,jP,jP⟩
  ·exact⟨z,z,z,(λ r hr=>nomatch hr),by show(2:Int)<=((3:Nat):Int);decide,z3,z3,jP,jP⟩
 ·have hv':v=0∨v=3∨v=4:=by simpa[XS.new] using hv
  show v<=((4:Nat):Int)
  omega
 ·rcases hmem v hv with rfl|rfl|rfl<;>exact Nat.zero_le _
def kinds:List Int:=[8,8,8,9,9,10,11,12,7,8]
theorem Z6{v:Nat}(h:v<10):7<=kinds.getD v 0/\kinds.getD v 0<=12:=by
 have:v=0∨v=1∨v=2∨v=3∨v=4∨v=5∨v=6∨v=7∨v=8∨v=9:=by omega
 rcases this with rfl|rfl|rfl|rfl|rfl|rfl|rfl|rfl|rfl|rfl<;>decide
theorem jf{v:Nat}(h:v<10):∃m:Nat,B6.getD v 0=(m:Int)/\m<18446744073709551616:=by
 have:v=0∨v=1∨v=2∨v=3∨v=4∨v=5∨v=6∨v=7∨v=8∨v=9:=by omega
 refine⟨(B6.getD v 0).toNat,?_⟩
 rcases this with rfl|rfl|rfl|rfl|rfl|rfl|rfl|rfl|rfl|rfl<;>decide
theorem Ql.mono{m B C E B' C' E':Nat}{W:Wd}(h:Ql m B C E W)(hB:B<=B')(hC:C<=C')(hE:E<=E'):Ql m B' C' E' W:=by
 obtain⟨s1,s2,s3⟩:=h.sz
 exact⟨h.z,⟨by omega,by omega,by omega⟩,λ e he=>by have:=h.ex e he;exact⟨this.i,this.k,this.em,this.ht,this.ha,by have:=this.gl;omega⟩,h.t0,h.tr,h.tl,by have:=h.el;omega,h.wr⟩
section
variable{S:List (Nat×Value)}{w0 w:World}{M:List Nat}{H:List (Nat×Obj)}{A F:Fr}{O:List Ow}{ty:TypeId}{pos:String}{af:Array Edge}{gd:Option (Nat×Bool)}{X:Type}{V:X->Value}
theorem cT(nH nO:Nat){φ:X->Prop}{hs:List (Nat×Obj)}{os:List Ow}{hs' H1:X->List (Nat×Obj)}{os' O1:X->List Ow}{Fc F1:X->Fr}{A0:Fr}{f:FuncId}{xs:List Operand}{at_:Array TypeId}{vs:List Value}{dst:Option Nat}
  (hc:∀w,SF w (Ks hs os) hs A0 [] os w->Calls Tryz.prog f ⟨vs⟩ w λ e w'=>∃x,e=.returned (V x)/\φ x/\SF w (Ks hs os) (hs' x) [] (Fc x) (os' x) w')
  (hA:bU A F (O.take nO) A0) (hF1:∀x,φ x->∀f∈F1 x,f.2=[]∨f∈Fc x++F)
  (ha:B3 S xs=vs:=by(repeat (first|exact qY _|(apply oL;focus ((conv=>{lhs;whnf});try exact rfl))));first|done|fail) (hp:plain Tryz.prog f=true:=by kernel_rfl)
  (hH:H=H.take nH++hs:=by exact rfl) (hO:O=O.take nO++os:=by exact rfl)
  (hH1:∀x,H.take nH++hs' x=H1 x:=by intro x;simp only[List.take_succ_cons,List.take_zero,List.cons_append,List.nil_append,wH];exact rfl) (hO1:∀x,O.take nO++os' x=O1 x:=by intro x;simp only[List.take_succ_cons,List.take_zero,List.cons_append,List.nil_append,wO];exact rfl) :
  aX Tryz.prog S (SF w0 M H A F O) ⟨dst,.call {callee:=.value (.func f),args:=⟨xs⟩,argTypes:=at_},ty,pos,af,gd⟩ X V (λ x w=>φ x/\SF w0 M (H1 x) A (F1 x) (O1 x) w) :=
 mC (oE hp ha) λ w hw=>(Mw (H':=H.take nH) (O':=O.take nO) hw ((List.Perm.of_eq hH).trans List.perm_append_comm) ((List.Perm.of_eq hO).trans List.perm_append_comm) hA (hc w)).mono λ _ _ ⟨x,he,hx,hs⟩=>⟨x,he,hx,by
  have h2:=(hs.perm (H':=H1 x) (O':=O1 x) (by rw[<- hH1 x];exact List.perm_append_comm) (by rw[<- hO1 x];exact List.perm_append_comm)).fN (hF1 x hx)
  exact h2⟩
end
theorem V6(l:List EX):(rE l).length=l.length:=by simp[rE]
theorem zx{es:List Nat}{k:Nat}(h:k<es.length):(zN es)[k]?=some (.pointer (some ⟨es.getD k 0,0,none⟩)):=by
 simp[zN,gF,h]
structure WY where
 i:Nat
 pos:Nat
 W:Wd
structure WYI(m:Nat)(y:WY):Prop where
 hi:y.i<=18
 ok:Ql m (8+134217920*y.i) (1048576+y.i) y.i y.W
theorem Rl.Is{kind:Int}{ts:List iS}{q:Gs}(h:Rl kind ts q)(p:Int):Rl kind ts {q with Is:=p}:=⟨h.ky,h.mem,h.ro⟩
set_option maxRecDepth 100000 in
set_option maxHeartbeats 4000000 in
theorem cg{l:List Int}{a:Option Addr}{c:Nat}{w:World}(ha:Go.Ct.Cl w a (aH l))(hl:l.length<=17592186043904) :
  Calls Tryz.prog 8 #[.slice a l.length c] w λ e w'=>∃q:Nat×Nat×Nat×Wd,e=.returned (.pointer (some ⟨q.1,0,none⟩))/\(q.2.2.1<18446744073709551616/\Ql q.2.2.1 2415922570 1048594 18 q.2.2.2)/\SF w [] (wH q.2.2.1 q.1 q.2.1 q.2.2.2) [] (bD q.2.2.2.z.L) (wO q.2.2.2) w':=by
 refine enter Tryz.func8 Tryz.ntmps8 rfl rfl (SF.s1 ha) ?_;simp only[cP]
 refine cR ?_;refine J2 ?_;refine aD (Rr (Fc:=λ _=>[]) (Oc:=λ _=>[]) (hc:=λ w1 hw=>aAT)) (λ x10 h10=>?_);refine J1 ?_;refine J0 ?_;refine aD (Rr (Fc:=λ _=>[]) (hc:=λ w1 hw=>Tv w1)) (λ x11 h11=>?_);refine aB ?_;refine aD (zS (hc:=λ w1 hw=>aAI (hw.tape dI fin hl))) (λ x13 h13=>?_);refine bQ ?_;refine bF (λ x15=>?_);refine vE ?_;refine eR ?_;refine J3 ?_;refine aD (cM (hc:=λ w hs=>Qi hs)) (λ x21 h21=>?_);refine aS (Px (sz:=2) (cs:=sQ [⟨3,false⟩]) Hy Ih rfl rfl rfl rfl rfl rfl) (λ x22=>?_);refine ln ?_;refine aV ?_;refine zR ?_;obtain⟨m,em,hm⟩:=jf h13
 refine kK [5,6,7,8,25,26,27,28,29,30,31,32,33,34,35,36,37,38,39,40,41,42,43,44,45,46,47,48,49,50,51,52,53,54,55,56,57,58,59,60,61,62,63,64,65,66,67,68,69,70,71,72,73,74,75,76,77,78,79,80,81,82,83,84,85,86,87,88,89,90,91,92,93,94,95,96,97,98] (λ y:WY=>[(5,.int .i64 ((y.i:Nat):Int))]) (λ y=>WYI m y) (λ y=>(x10,T4 a l c y.pos)::(x15,oG x11.1 (m:Int) y.W.pt y.W.ts.length y.W.kt y.W.pe (rE y.W.ex).length y.W.ke)::(x11.1,xM y.W.z)::Dk x11.1 y.W.ex) (λ y=>bD y.W.z.L) (λ y=>⟨y.W.pt,sQ y.W.ts,y.W.kt,29,2⟩::⟨y.W.pe,zN (rE y.W.ex),y.W.ke,73,1⟩::⟨y.W.z.pn,fX y.W.z.L,y.W.z.cn,77,14⟩::⟨y.W.z.pc,aH y.W.z.cs,y.W.z.cc,62,1⟩::Av y.W.ex) (λ y=>18-y.i) (⟨0,oS l 0,⟨XS.new (L4 x21.1 x21.2.1) [0,3,4] 1 0 x21.2.1.pn x21.2.1.cn x21.2.2.1 x21.2.2.2,[⟨3,false⟩],some ⟨x22,0,none⟩,1,[],none,0⟩⟩) (⟨by show(0:Nat)<=18;decide,aBa _ _ _ _ _ _ _,⟨by show 4<=8+134217920*0;decide,by show 3<=8+134217920*0;decide,by show(1:Int)<=((8+134217920*0:Nat):Int);decide⟩,(λ e he=>nomatch he),by show 0<1;decide,rfl,by show 1<=5;decide,Nat.le_refl _,.new⟩) (λ y f hx=>?_) (hw0:=λ w hw=>by rw[em,List.append_nil] at hw;exact(hw.kS 73 1).perm (List.perm_append_comm (l₁:=[_]) (l₂:=[_,_])) (List.Perm.swap _ _ _));refine K0a ?_;have hy:=hx;refine jL ?_;refine zB ?_;(refine eM 27 (λ g27=>?_) (λ g27=>?_)<;>refine Ka0 ?_);all_goals ((first|refine aJ ?_|(refine aF ?_;refine aD (zS (hc:=λ w1 hw=>w9 (hw.tape dI fin hl))) (λ x29 h29=>?_)));refine cI ?_;refine aK ?_)
 all_goals
 refine bA (λ c30=>?_) (λ c30=>?_)
 ·try exact nv c30
  all_goals (refine Ke1 ?_;refine aS ((by exact Fv (λ _=>cX (cs:=aH kinds) Hj Ih rfl rfl rfl rfl rfl))) (λ x33=>?_);refine aB ?_;refine aD (zS (hc:=λ w1 hw=>fW 10 (hw.tape dI fin hl) (by decide) (by decide))) (λ x35 h35=>?_);refine aE (bE (lst:=kinds) (k:=x35) rf rf eC dC (.new .head) (by omega) (by simp only[kinds,List.length_cons,List.length_nil];omega)) rfl ?_;refine aE (bP (lst:=kinds) (q:=x35) rf dC (.new .head) (by simp only[kinds,List.length_cons,List.length_nil];omega)) rfl ?_;refine gX ?_)
  all_goals
   refine eN [6,38,39,40,41,42,43,44] (λ q:Int×Nat=>[(6,.int .i64 q.1)]) (λ q=>7<=q.1/\q.1<=12) (λ q=>(x10,T4 a l c q.2)::(x15,oG x11.1 (m:Int) y.W.pt y.W.ts.length y.W.kt y.W.pe (rE y.W.ex).length y.W.ke)::(x11.1,xM y.W.z)::Dk x11.1 y.W.ex) (λ _=>bD y.W.z.L) (λ _=>⟨y.W.pt,sQ y.W.ts,y.W.kt,29,2⟩::⟨y.W.pe,zN (rE y.W.ex),y.W.ke,73,1⟩::⟨y.W.z.pn,fX y.W.z.L,y.W.z.cn,77,14⟩::⟨y.W.z.pc,aH y.W.z.cs,y.W.z.cc,62,1⟩::Av y.W.ex) (by decide) (λ _=>by exact rfl) ?_ (λ q f hx=>?_)
   ·refine aV ?_;refine zT ?_;refine lC ?_;refine aB ?_;(refine eM 40 (λ g40=>?_) (λ g40=>?_)<;>refine Ka0 ?_);all_goals ((first|refine aJ ?_|(refine aF ?_;refine aD (zS (hc:=λ w1 hw=>fW 3 (hw.tape dI fin hl) (by decide) (by decide))) (λ x42 h42=>?_)));refine Kb2 ?_)
    all_goals
    refine bA (λ c44=>?_) (λ c44=>?_)
    ·try exact nv c44
     all_goals (refine dM ?_;refine J1 ?_)
     all_goals
      refine eQ ((8,oS l (oS l y.pos))) ?_ (hw1:=λ w hw=>hw.back (hF:=aP.kJ λ f hf=>List.mem_cons_of_mem _ hf))
      ·exact⟨by show(7:Int)<=8;decide,by show(8:Int)<=12;decide⟩
    ·all_goals try (exfalso;omega)
     all_goals refine bB ?_
     all_goals
      refine eQ (by first|exact((λ _=>(kinds.getD x35 0,oS l (oS l y.pos))) x42)|exact(kinds.getD x35 0,oS l y.pos)) ?_ (hw1:=λ w hw=>hw.back (hF:=aP.kJ λ f hf=>List.mem_cons_of_mem _ hf))
      ·exact Z6 (by omega)
   refine K0a ?_;have hq:=hx
  all_goals (refine Ke5 ?_;refine aD (cM (hs:=[(x10,T4 a l c q.2),(x15,oG x11.1 (m:Int) y.W.pt y.W.ts.length y.W.kt y.W.pe (rE y.W.ex).length y.W.ke)]) (os:=[⟨y.W.pt,sQ y.W.ts,y.W.kt,29,2⟩]) (A0:=[(a,aH l)]) (hc:=λ w hs=>ot q.1 hq hl hy.ok.t0 (by have:=hy.ok.tl;omega) hy.ok.tr hs)) (λ x48 h48=>?_);refine aT (λ x7=>?_);refine J5 ?_;refine aV ?_)
  all_goals
   refine eN [49,50,51,52,53,54,55,56] (λ r:Int×Nat=>[]) (λ r=>True) (λ r=>(x7,.cells ⟨Rt (({x48 with Is:=r.1}:Gs).cl q.1 (m:Int))⟩ 70 (0,0))::(x10,T4 a l c r.2)::(x15,oG x11.1 (m:Int) y.W.pt y.W.ts.length y.W.kt y.W.pe (rE y.W.ex).length y.W.ke)::(x11.1,xM y.W.z)::Dk x11.1 y.W.ex) (λ _=>bD y.W.z.L) (λ _=>⟨y.W.pt,sQ y.W.ts,y.W.kt,29,2⟩::⟨y.W.pe,zN (rE y.W.ex),y.W.ke,73,1⟩::⟨y.W.z.pn,fX y.W.z.L,y.W.z.cn,77,14⟩::⟨y.W.z.pc,aH y.W.z.cs,y.W.z.cc,62,1⟩::Av y.W.ex) (by decide) (λ _=>by exact rfl) ?_ (λ r f hx=>?_)
   ·refine aV ?_;refine zT ?_;refine lC ?_;refine aB ?_;(refine eM 51 (λ g51=>?_) (λ g51=>?_)<;>refine Ka0 ?_);all_goals ((first|refine aJ ?_|(refine aF ?_;refine aD (zS (hc:=λ w1 hw=>fW 3 (hw.tape dI fin hl) (by decide) (by decide))) (λ x53 h53=>?_)));refine Kb2 ?_)
    all_goals
    refine bA (λ c55=>?_) (λ c55=>?_)
    ·try exact nv c55
     all_goals (refine dM ?_;refine zV ?_)
     all_goals
      refine eQ ((0,oS l x48.pos)) ?_ (hw1:=λ w hw=>hw.zA1)
      ·trivial
    ·all_goals try (exfalso;omega)
     all_goals refine bB ?_
     all_goals
      refine eQ (by first|exact((λ _=>(x48.Is,oS l x48.pos)) x53)|exact(x48.Is,x48.pos)) ?_ (hw1:=λ w hw=>hw.zA1)
      ·trivial
   refine K0a ?_
  all_goals refine D6 ?_
  all_goals
   refine eN [8,57,58,59,60,61,62,63,64,65,66,67,68,69] (λ s:Nat×Nat=>[(8,.int .i64 ((s.1:Nat):Int))]) (λ s=>s.1<=1048576) (λ s=>(x7,.cells ⟨Rt (({x48 with Is:=r.1}:Gs).cl q.1 (m:Int))⟩ 70 (0,0))::(x10,T4 a l c s.2)::(x15,oG x11.1 (m:Int) y.W.pt y.W.ts.length y.W.kt y.W.pe (rE y.W.ex).length y.W.ke)::(x11.1,xM y.W.z)::Dk x11.1 y.W.ex) (λ _=>bD y.W.z.L) (λ _=>⟨y.W.pt,sQ y.W.ts,y.W.kt,29,2⟩::⟨y.W.pe,zN (rE y.W.ex),y.W.ke,73,1⟩::⟨y.W.z.pn,fX y.W.z.L,y.W.z.cn,77,14⟩::⟨y.W.z.pc,aH y.W.z.cs,y.W.z.cc,62,1⟩::Av y.W.ex) (by decide) (λ _=>by exact rfl) ?_ (λ s f hx=>?_)
   ·refine aV ?_;refine zT ?_;refine eR ?_;refine I3 ?_;refine zB ?_;(refine eM 63 (λ g63=>?_) (λ g63=>?_)<;>refine Ka0 ?_);all_goals ((first|refine aJ ?_|(refine aF ?_;refine aD (zS (hc:=λ w1 hw=>fW 4 (hw.tape dI fin hl) (by decide) (by decide))) (λ x65 h65=>?_)));refine zC ?_;refine aK ?_)
    all_goals
    refine bA (λ c67=>?_) (λ c67=>?_)
    ·try exact nv c67
     all_goals (refine zT ?_;refine aD (zS (hc:=λ w1 hw=>fW 16 (hw.tape dI fin hl) (by decide) (by decide))) (λ x69 h69=>?_);refine J1 ?_)
     all_goals
      refine eQ ((x69,oS l (oS l r.2))) ?_ (hw1:=λ w hw=>hw.zA1)
      ·show x69<=1048576;omega
    ·all_goals try (exfalso;omega)
     all_goals refine bB ?_
     all_goals
      refine eQ (by first|exact((λ _=>(1048576,oS l r.2)) x65)|exact(1048576,r.2)) ?_ (hw1:=λ w hw=>hw.zA1)
      ·exact Nat.le_refl 1048576
   refine K0a ?_;have hs1:=hx
  all_goals (refine Kd2 ?_;refine aB ?_;refine aD (cT 2 0 (hs:=wH m x15 x11.1 y.W) (os:=wO y.W) (A0:=bD y.W.z.L) (F1:=λ x:Wd×List aI=>bD x.1.z.L) (hc:=λ w hs=>tp (q:={x48 with Is:=r.1}) (kind:=q.1) s.1 hs1 (by omega) (by omega) hm hy.ok (by omega) hq (h48.Is _) (λ f hf=>hf) hs) (hA:=bU.of λ f hf=>.inr (.inr (.inl hf))) (hF1:=λ x hx f hf=>by rw[hx.2,fH] at hf;exact .inr ((List.mem_append.1 hf).elim (λ h=>List.mem_append_right _ h) (λ h=>List.mem_append_left _ h)))) (λ x73 h73=>?_);refine aK ?_)
  all_goals
   refine eN [74,75,76,77,78,79,80,81,82,83,84,85,86,87,88,89,90,91,92,93,94,95,96,97,98] (λ u:Nat×Wd=>[]) (λ u=>Ql m (8+134217920*(y.i+1)) (1048576+(y.i+1)) (y.i+1) u.2) (λ u=>(x7,.cells ⟨Rt (({x48 with Is:=r.1}:Gs).cl q.1 (m:Int))⟩ 70 (0,0))::(x10,T4 a l c u.1)::(x15,oG x11.1 (m:Int) u.2.pt u.2.ts.length u.2.kt u.2.pe (rE u.2.ex).length u.2.ke)::(x11.1,xM u.2.z)::Dk x11.1 u.2.ex) (λ u=>bD u.2.z.L) (λ u=>⟨u.2.pt,sQ u.2.ts,u.2.kt,29,2⟩::⟨u.2.pe,zN (rE u.2.ex),u.2.ke,73,1⟩::⟨u.2.z.pn,fX u.2.z.L,u.2.z.cn,77,14⟩::⟨u.2.z.pc,aH u.2.z.cs,u.2.z.cc,62,1⟩::Av u.2.ex) (by decide) (λ _=>by exact rfl) ?_ (λ u f hx=>?_)
   ·refine aV ?_;refine zT ?_;refine eR ?_;refine I3 ?_;refine vH ?_;refine aB ?_;(refine eM 80 (λ g80=>?_) (λ g80=>?_)<;>refine Ka0 ?_);all_goals ((first|refine aJ ?_|(refine aF ?_;refine aD (zS (hc:=λ w1 hw=>fW 3 (hw.tape dI fin hl) (by decide) (by decide))) (λ x82 h82=>?_)));refine zC ?_;refine aK ?_)
    all_goals
    refine bA (λ c84=>?_) (λ c84=>?_)
    ·try exact nv c84
     all_goals (refine dZ [(0,[]),(1,[]),(2,[]),(3,[]),(4,[]),(5,[]),(6,[]),(7,[]),(8,[]),(9,[]),(10,[3]),(11,[]),(12,[]),(13,[])] ?_;refine mz ?_;refine J67 ?_;refine iW ?_;refine bL (i:=10) (hq:=(zS (hc:=λ w1 hw=>fW ((rE x73.1.ex).length:Nat) (hw.tape dI fin hl) (by omega) (by rw[V6];have:=h73.1.el;omega)))) (h:=λ x95 h95=>?_);refine bJ (i:=11) (hq:=(uh (cs:=zN (rE x73.1.ex)) (k:=x95) rf rf eC dC (.own (.tail .head)) (by omega) (by rw[Fu];omega))) (h:=?_);refine bJ (i:=12) (hq:=(wh (cs:=zN (rE x73.1.ex)) (v:=.pointer (some ⟨(rE x73.1.ex).getD x95 0,0,none⟩)) rf dC (.own (.tail .head)) (zx (by omega)))) (h:=?_);refine bL (i:=13) (hq:=(cT 2 0 (hs:=wH m x15 x11.1 x73.1) (os:=wO x73.1) (A0:=bD x73.1.z.L) (F1:=λ x:Wd×List aI=>bD x.1.z.L) (hc:=λ w hs=>lj (i:=x95) (by rw[<- V6];omega) (by omega) (by omega) hm h73.1 (λ f hf=>hf) hs) (hA:=bU.of λ f hf=>.inr (.inr (.inl hf))) (hF1:=λ x hx f hf=>by rw[hx.2.2,fH] at hf;exact .inr ((List.mem_append.1 hf).elim (λ h=>List.mem_append_right _ h) (λ h=>List.mem_append_left _ h))))) (h:=λ x98 h98=>?_);refine dJ ?_)
     all_goals
      refine eQ ((oS l (oS l s.2),x98.1)) ?_ (hw1:=λ w hw=>hw.zA1)
      ·exact h98.1.mono (by omega) (by omega) (Nat.le_refl _)
    ·all_goals try (exfalso;omega)
     all_goals refine bB ?_
     all_goals
      refine eQ (by first|exact((λ _=>(oS l s.2,x73.1)) x82)|exact(s.2,x73.1)) ?_ (hw1:=λ w hw=>hw.zA1)
      ·exact h73.1.mono (by omega) (by omega) (Nat.le_refl _)
   refine K0a ?_
  all_goals (refine Kc2 ?_)
  all_goals
   refine gT (⟨y.i+1,u.1,u.2⟩) ?_ (hw1:=λ w hw=>hw.zA1)
   ·exact⟨by show y.i+1<=18;omega,hx⟩
 ·all_goals try (exfalso;omega)
  all_goals (refine bM rfl ?_;refine Ka5 ?_)
  all_goals
   refine aR Tryz.results8 (λ w hw=>?_);exact⟨(x15,x11.1,m,y.W),rfl,⟨hm,hy.ok.mono (by have:=hy.hi;omega) (by have:=hy.hi;omega) hy.hi⟩,hw.aQ (hH:=List.Sublist.cons _ (List.Sublist.refl _)) (hF:=by exact aP.all) (hO:=List.Sublist.refl _)⟩
end

/- ShapeExact: the walk. -/
section
open Go Go.RowKit Go.Ct
structure XOk(A F:Fr)(O:List Ow)(zL:List aI)(zn nc:Nat)(q:kr):Prop where
 len:q.L.length=zL.length
 clen:q.cs.length=nc
 fit:Fits q.L
 Ic:iG q.L
 hash:∀v∈q.L,Zt v.nd.hash
 ys:∀v∈q.L,v.ys.length<=8
 cap:q.L.length<=q.cn∨(q.L=zL/\q.cn=zn)
 has:∀f∈q.fr,Has A F O f
theorem XOk.st{A F:Fr}{O:List Ow}{zL:List aI}{n nc:Nat}{q:kr}{w0 w:World}{M:List Nat}{H:List (Nat×Obj)}(h:XOk A F O zL n nc q)(hw:SF w0 M H A F O w):eP w q.L q.cs q.pn q.pc :=
 hw.kB (h.has _ (.head _)) (h.has _ (.tail _ (.head _))) (λ f hf=>h.has f (.tail _ (.tail _ hf))) h.fit
theorem Oh{L:List aI}{cs:List Int}{gen:Int}(hp:cO L cs gen):∀v∈L,v.nd.key.size<=4611686018427387903:=λ v hv=>by
 obtain⟨k,hk,rfl⟩:=List.mem_iff_getElem.1 hv
 have:=(hp.nodes k hk).1;rw[gF,List.getElem?_eq_getElem hk] at this;have e:(L[k]).nd.key=(L[k]).nd.own.key:=this.1.2.2.2.2.2.2.1;have h7:=this.2.2.2.2;rw[show(some L[k]).getD aI.zero=L[k] from rfl] at h7;by_cases h4:(L[k]).nd.kind=4∨(L[k]).nd.kind=5
 ·have:(L[k]).nd.key.size<=64:=by
   rcases h7 with h|h|h|h|h|h|h
   ·omega
   ·omega
   ·omega
   ·exact h.2
   ·omega
   ·omega
   ·omega
  omega
 ·have h0:(L[k]).nd.own.key=⟨#[]⟩:=by
   unfold Nd.own
   (repeat' split)<;>first|rfl|(exfalso;simp_all;done)
  rw[e,h0]
  decide
theorem aAQ{L:List aI}(ok:tM L):∀v∈L,v.xs.length<=64:=λ v hv=>by
 obtain⟨b,_,_,h3,_⟩:=ok.bm v hv
 by_cases k:v.nd.kind=3
 ·rw[h3 k];exact oY b 64
 ·rw[ok.no v hv k];exact Nat.zero_le _
open Classical in
theorem Kc{α:Type}:∀(l m:List α),l.Nodup->(∀a∈l,a∈m)->l.length<=m.length
 | [],_,_,_=>Nat.zero_le _
 | a::l,m,hn,hs=>by
  have hn:=List.nodup_cons.1 hn;have ha:=hs a (List.mem_cons_self ..)
  have:=Kc l (m.erase a) hn.2 λ b hb=>by
   have hb2:=hs b (List.mem_cons_of_mem _ hb);exact(List.mem_erase_of_ne (λ e=>hn.1 (by rw[<- e];exact hb))).2 hb2
  rw[List.length_erase_of_mem ha] at this;have:=List.length_pos_of_mem ha;simp only[List.length_cons]
  omega
theorem Yw{m B C E:Nat}{W:Wd}(h:Ql m B C E W):∀v∈W.z.L,v.ys.length<=8:=by
 obtain⟨σ,hi⟩:=h.wr.inv
 have i0:=hi.inv;have e1:σ.mm.nodes=W.z.L.map aI.c:=by rw[hi.mm];rfl
 have hl:σ.len=W.z.L.length:=by show σ.mm.nodes.length=_;rw[e1,List.length_map]
 intro v hv
 obtain⟨k,hk,rfl⟩:=List.mem_iff_getElem.1 hv
 have hn:=i0.nd ((k+1:Nat):Int) (by omega) (by omega)
 have e:σ.nd ((k+1:Nat):Int)=(W.z.L[k]).c:=by
  simp only[Kw.nd]
  rw[e1,bG,fG hk,gF,List.getElem?_eq_getElem hk]
  rfl
 have hy:(σ.nd ((k+1:Nat):Int)).ys=(W.z.L[k]).ys:=by rw[e];rfl
 rw[<- hy];have hval:=hn.valid;by_cases h6:(σ.nd ((k+1:Nat):Int)).kind=6
 ·have hk6:=hn.k6 h6;obtain⟨b,hb,hblt⟩:=hn.bd.hash
  have hasc:SA (σ.nd ((k+1:Nat):Int)).ys:=by
   have:=hval.2.2.2.2;have h6':(σ.nd ((k+1:Nat):Int)).nd.kind=6:=h6;rcases this with h|h|h|h|h|h|h
   ·omega
   ·omega
   ·omega
   ·omega
   ·exact oW.1 h.2.2.1
   ·omega
   ·omega
  have hnd:((σ.nd ((k+1:Nat):Int)).ys.map Prod.fst).Nodup:=by
   unfold List.Nodup
   rw[List.pairwise_map]
   exact hasc.imp λ{a b} hab e=>by rw[e,sV] at hab;cases hab
  have:=Kc _ mA hnd λ q hq=>by
   obtain⟨p,hp,rfl⟩:=List.mem_map.1 hq
   exact(vc (hk6.2.2.1 p hp) (by omega)).1
  rw[List.length_map] at this
  exact this
 ·have:(σ.nd ((k+1:Nat):Int)).ys=[]:=hval.1.2.2.2.2.2.2.2.2.1.trans (if_neg (by have h7:¬(σ.nd ((k+1:Nat):Int)).nd.kind=6:=h6;simpa using h7));rw[this];decide
theorem X8{m B C E:Nat}{W:Wd}(h:Ql m B C E W):0<W.z.cs.length/\0<W.z.L.length:=by
 obtain⟨σ,hi⟩:=h.wr.inv
 have ht:W.ts.getD 0 ⟨0,false⟩∈W.ts:=rS h.t0;have h1:=hi.ts _ ht;have e:σ.cl=W.z.cs.length:=by simp only[Kw.cl,hi.mm];rfl
 have h2:=h1.1;have h3:=h1.2.1;have:=h.z.two;exact⟨by omega,by omega⟩
set_option maxRecDepth 100000 in
set_option maxHeartbeats 4000000 in
theorem M3{s0:kr}{l:List Int}{p:Option Addr}{lc m:Nat}{w:World}(c:Int)(ro:Bool)(cv tv kv:Int)(h0:eP w s0.L s0.cs s0.pn s0.pc)(ok0:s0.Ok)(hh0:∀v∈s0.L,Zt v.nd.hash)(hys:∀v∈s0.L,v.ys.length<=1048576)(hcl:Go.Ct.Cl w p (aH l))(hl:l.length<=17592186043904)(hc:c<=9223372036854775807)(hmm:m<18446744073709551616)(hT:Go.Ct.Cl w (some ⟨0,0,none⟩) (oH jB)) :
  Calls Tryz.prog 3 #[.agg ⟨[.slice s0.pn s0.L.length s0.cn,.slice s0.pc s0.cs.length s0.cc,.int .i64 s0.gen]⟩,.slice p l.length lc,.agg ⟨[.int .i64 c,.bool ro]⟩,.int .u64 ((m:Nat):Int),.int .i64 cv,.int .i64 tv,.int .i64 kv] w λ e w'=>e=.returned (.bool true)/\St w [] [] w':=by
 refine enter Tryz.func3 Tryz.ntmps3 rfl rfl (SF.begin (A:=((some ⟨0,0,none⟩,oH jB)::(p,aH l)::s0.fr)) (λ f hf=>by
rcases List.mem_cons.1 hf with rfl|hf
·exact hT
rcases List.mem_cons.1 hf with rfl|hf
·exact hcl
rcases List.mem_cons.1 hf with rfl|hf
·exact h0.nds
rcases List.mem_cons.1 hf with rfl|hf
·exact h0.cls
·exact h0.O9 f hf)) ?_
 simp only[cP]
 all_goals (refine J0 ?_;refine bF (λ x7=>?_);refine bF (λ x9=>?_);refine gX ?_;refine gH ?_;refine dE ?_;refine zM ?_;refine aB ?_)
 all_goals ((refine eM 24 (λ g24=>?_) (λ g24=>?_)<;>(try (first|contradiction|(exfalso;omega)))<;>refine Ka1 ?_))
 all_goals (refine Ka2 ?_;(first|refine aJ ?_|(refine aF ?_;refine dE ?_));(first|refine aJ ?_|(refine aF ?_;refine zM ?_));refine Kc4 ?_)
 all_goals (first|refine aJ ?_|(refine eM 30 (λ g30=>?_) (λ g30=>?_)<;>(try (first|contradiction|(exfalso;omega)))<;>refine Ka2 ?_))
 all_goals (refine Zv ?_;(first|refine aJ ?_|(refine aF ?_;refine aS (cV (v:=.bool true) (hc:=λ w1 hw=>Ai (hw.kB (.inr (.inl (.tail _ (.tail _ (.head _))))) (.inr (.inl (.tail _ (.tail _ (.tail _ (.head _)))))) (λ f hf=>.inr (.inl (.tail _ (.tail _ (.tail _ (.tail _ hf)))))) ok0.fit) (hw.cl (.bO .head)) ok0.Ic hh0 (by omega) (by omega) ok0.cap hys (Nat.le_trans (Nat.mul_le_mul_right _ (show s0.L.length+1<=41 by omega)) (by decide)) c ro hc hmm)) (λ x34=>?_)));refine Kd5 ?_)
 all_goals
 refine bA (λ c36=>?_) (λ c36=>?_)
 ·exact nv c36
 ·all_goals try (first|contradiction|(exfalso;omega))
  all_goals (refine Kb3 ?_;refine aD (Rr (Hc:=λ q:Nat×Nat×Nat×Wd=>wH q.2.2.1 q.1 q.2.1 q.2.2.2) (H1:=λ q=>(q.1,oG q.2.1 (q.2.2.1:Int) q.2.2.2.pt q.2.2.2.ts.length q.2.2.2.kt q.2.2.2.pe (rE q.2.2.2.ex).length q.2.2.2.ke)::(q.2.1,xM q.2.2.2.z)::(Dk q.2.1 q.2.2.2.ex++[(x9,.cells ⟨[.int .i64 c,.bool ro]⟩ 29 (0,0)),(x7,.cells ⟨[.slice s0.pn s0.L.length s0.cn,.slice s0.pc s0.cs.length s0.cc,.int .i64 s0.gen]⟩ 25 (0,0))])) (Fc:=λ q=>bD q.2.2.2.z.L) (F1:=λ q=>bD q.2.2.2.z.L) (Oc:=λ q=>wO q.2.2.2) (O1:=λ q=>⟨q.2.2.2.pt,sQ q.2.2.2.ts,q.2.2.2.kt,29,2⟩::⟨q.2.2.2.pe,zN (rE q.2.2.2.ex),q.2.2.2.ke,73,1⟩::⟨q.2.2.2.z.pn,fX q.2.2.2.z.L,q.2.2.2.z.cn,77,14⟩::⟨q.2.2.2.z.pc,aH q.2.2.2.z.cs,q.2.2.2.z.cc,62,1⟩::Av q.2.2.2.ex) (hH1:=λ q=>rfl) (hF1:=λ q=>List.append_nil _) (hO1:=λ q=>List.append_nil _) (hc:=λ w1 hw=>cg (hw.cl (.bO (.tail .head))) hl)) (λ x38 h38=>?_))
  all_goals
   have hm:=h38.1;have hW:=h38.2;have htl:=hW.tl;have s1:x38.2.2.2.z.L.length<=2415922570:=hW.sz.1;have s2:x38.2.2.2.z.cs.length<=2415922570:=hW.sz.2.1;have s3:x38.2.2.2.z.gen<=((2415922570:Nat):Int):=hW.sz.2.2;have hgn:0<=x38.2.2.2.z.gen:=hW.z.gen0;obtain⟨hcs0,hls0⟩:=X8 hW
   have hky:=Yw hW;obtain⟨r0,l0,hck⟩:=ak hW (rS (ts:=x38.2.2.2.ts) (j:=0) hW.t0) (by omega)
   have hkz:=Oh hck.pr;have hxz:=aAQ hck.sh;have hhz:∀v∈x38.2.2.2.z.L,Zt v.nd.hash:=hck.sh.hash;obtain⟨g,hg⟩:∃g:Nat,x38.2.2.2.z.gen=((g:Nat):Int):=⟨x38.2.2.2.z.gen.toNat,by omega⟩
  all_goals (refine gX ?_;refine zR ?_)
  all_goals
   refine kK [14,16,17,19,39,40,41,42,43,44,45,46,47,48,49,50,51,52,53,54,55,56,57,58,59,60,61,62,63,64,65,66,67,68,69,70,71,72,73,74,75,76,77,78,79,80,81] (λ y:Nat=>[(16,.int .i64 ((y:Nat):Int))]) (λ y=>y<=2) (λ _=>(x38.1,oG x38.2.1 (x38.2.2.1:Int) x38.2.2.2.pt x38.2.2.2.ts.length x38.2.2.2.kt x38.2.2.2.pe (rE x38.2.2.2.ex).length x38.2.2.2.ke)::(x38.2.1,xM x38.2.2.2.z)::Dk x38.2.1 x38.2.2.2.ex) (λ _=>bD x38.2.2.2.z.L) (λ _=>⟨x38.2.2.2.pt,sQ x38.2.2.2.ts,x38.2.2.2.kt,29,2⟩::⟨x38.2.2.2.pe,zN (rE x38.2.2.2.ex),x38.2.2.2.ke,73,1⟩::⟨x38.2.2.2.z.pn,fX x38.2.2.2.z.L,x38.2.2.2.z.cn,77,14⟩::⟨x38.2.2.2.z.pc,aH x38.2.2.2.z.cs,x38.2.2.2.z.cc,62,1⟩::Av x38.2.2.2.ex) (λ y=>2-y) (0) (Nat.zero_le _) (λ y f hx=>?_) (hw0:=λ w hw=>hw.zA1 (hH:=.cons_cons _ (.cons_cons _ (List.sublist_append_left ..))));refine K0a ?_;all_goals (refine jL ?_;refine rJ ?_)
   all_goals
   refine bA (λ c40=>?_) (λ c40=>?_)
   ·all_goals try (first|contradiction|(exfalso;omega))
    all_goals (refine mZ ?_;refine oR ?_;refine Ns ?_;refine aE (aW (k:=3) rf dI dR (by simp only[List.drop_zero,List.take_succ_cons,List.take_zero];exact rfl) rfl) rfl ?_;refine aT (λ x17=>?_);refine J5 ?_;refine aV ?_)
    all_goals
     refine eN [50,51,52,53,54,55,56] (λ q:kr×Fr=>[]) (λ q=>XOk ((some ⟨0,0,none⟩,oH jB)::(p,aH l)::s0.fr) (q.2++bD x38.2.2.2.z.L) (⟨x38.2.2.2.pt,sQ x38.2.2.2.ts,x38.2.2.2.kt,29,2⟩::⟨x38.2.2.2.pe,zN (rE x38.2.2.2.ex),x38.2.2.2.ke,73,1⟩::⟨x38.2.2.2.z.pn,fX x38.2.2.2.z.L,x38.2.2.2.z.cn,77,14⟩::⟨x38.2.2.2.z.pc,aH x38.2.2.2.z.cs,x38.2.2.2.z.cc,62,1⟩::Av x38.2.2.2.ex) x38.2.2.2.z.L x38.2.2.2.z.cn x38.2.2.2.z.cs.length q.1) (λ q=>(x17,.cells ⟨q.1.cells⟩ 25 (0,0))::(x38.1,oG x38.2.1 (x38.2.2.1:Int) x38.2.2.2.pt x38.2.2.2.ts.length x38.2.2.2.kt x38.2.2.2.pe (rE x38.2.2.2.ex).length x38.2.2.2.ke)::(x38.2.1,xM x38.2.2.2.z)::Dk x38.2.1 x38.2.2.2.ex) (λ q=>q.2++bD x38.2.2.2.z.L) (λ q=>⟨x38.2.2.2.pt,sQ x38.2.2.2.ts,x38.2.2.2.kt,29,2⟩::⟨x38.2.2.2.pe,zN (rE x38.2.2.2.ex),x38.2.2.2.ke,73,1⟩::⟨x38.2.2.2.z.pn,fX x38.2.2.2.z.L,x38.2.2.2.z.cn,77,14⟩::⟨x38.2.2.2.z.pc,aH x38.2.2.2.z.cs,x38.2.2.2.z.cc,62,1⟩::Av x38.2.2.2.ex) (by decide) (λ _=>by exact rfl) ?_ (λ q f hx=>?_)
     ·all_goals (refine aV ?_)
      all_goals (refine zT ?_;refine rW ?_)
      all_goals
      refine bA (λ c51=>?_) (λ c51=>?_)
      ·all_goals try (first|contradiction|(exfalso;omega))
       all_goals (refine dM ?_;refine bI ?_;refine pK ?_;refine aB ?_;refine aD (Rr (V:=λ x:ChX=>.agg ⟨[.slice x.pn x.L.length x.cn,.slice x.pc x.cs.length x.cc,.int .i64 ((g:Nat):Int)]⟩) (Hc:=λ _=>[]) (Fc:=λ x:ChX=>x.F) (hc:=λ w1 hw=>by rw[hg];exact Ya (hw.kB (.inr (.inr (.inr ⟨_,.tail _ (.tail _ (.head _)),rfl,rfl⟩))) (.inr (.inr (.inr ⟨_,.tail _ (.tail _ (.tail _ (.head _))),rfl,rfl⟩))) (λ f hf=>.inr (.inr (.inl hf))) hW.z.fit) (K7 hW.z) hhz hls0 (by omega) hcs0 (by omega) (by omega) hkz hxz cv tv kv)) (λ x56 h56=>?_);refine J5 ?_)
       all_goals
        refine eQ ((⟨x56.L,x56.cs,((g:Nat):Int),x56.pn,x56.cn,x56.pc,x56.cc⟩,(x56.pn,fX x56.L)::(x56.pc,aH x56.cs)::x56.F)) ?_ (hw1:=λ w hw=>((hw.freeze .head).freeze .head).back (hH:=by exact List.Sublist.refl _) (hO:=by exact List.Sublist.refl _) (hF:=aP.kJ λ f hf=>by simp only[List.cons_append,List.mem_cons,List.mem_append] at hf ⊢;rcases hf with h|h|h|h<;>simp[h]))
        ·exact⟨h56.1.len,h56.1.clen,h56.1.fit,h56.1.Ic,h56.1.hash,h56.1.ys 8 hky,.inl h56.2,λ f hf=>by
         rcases List.mem_cons.1 hf with rfl|hf
         ·exact .inr (.inr (.inl (.head _)))
         rcases List.mem_cons.1 hf with rfl|hf
         ·exact .inr (.inr (.inl (.tail _ (.head _))))
         rcases h56.1.O9 f hf with h|h|h
         ·exact .inl h
         ·exact .inr (.inr (.inl (List.mem_append_right _ h)))
         ·exact .inr (.inr (.inl (List.mem_append_left _ (.tail _ (.tail _ h)))))⟩
      ·all_goals try (first|contradiction|(exfalso;omega))
       all_goals refine bB ?_
       all_goals
        refine eQ ((⟨x38.2.2.2.z.L,x38.2.2.2.z.cs,x38.2.2.2.z.gen,x38.2.2.2.z.pn,x38.2.2.2.z.cn,x38.2.2.2.z.pc,x38.2.2.2.z.cc⟩,[])) ?_ (hw1:=λ w hw=>hw.back (hH:=by exact List.Sublist.refl _) (hF:=aP.all) (hO:=by exact List.Sublist.refl _))
        ·exact⟨rfl,rfl,hW.z.fit,K7 hW.z,hhz,hky,.inr ⟨rfl,rfl⟩,λ f hf=>by
         rcases List.mem_cons.1 hf with rfl|hf
         ·exact(.inr (.inr (.inr ⟨_,.tail _ (.tail _ (.head _)),rfl,rfl⟩)))
         rcases List.mem_cons.1 hf with rfl|hf
         ·exact(.inr (.inr (.inr ⟨_,.tail _ (.tail _ (.tail _ (.head _))),rfl,rfl⟩)))
         ·exact .inr (.inr (.inl (List.mem_append_right _ hf)))⟩
     refine K0a ?_;have hq:=hx;have hq1:=hq.len;have hq2:=hq.clen
    all_goals (refine oR ?_;refine Kc6 ?_)
    all_goals
     refine kK [14,19,62,63,64,65,66,67,68,69,70,71,72,73,74,75,76,77,78,79,80,81] (λ y2:Nat=>[(62,.int .i64 ((y2:Nat):Int))]) (λ y2=>y2<=x38.2.2.2.ts.length) (λ _=>(x17,.cells ⟨q.1.cells⟩ 25 (0,0))::(x38.1,oG x38.2.1 (x38.2.2.1:Int) x38.2.2.2.pt x38.2.2.2.ts.length x38.2.2.2.kt x38.2.2.2.pe (rE x38.2.2.2.ex).length x38.2.2.2.ke)::(x38.2.1,xM x38.2.2.2.z)::Dk x38.2.1 x38.2.2.2.ex) (λ _=>q.2++bD x38.2.2.2.z.L) (λ _=>⟨x38.2.2.2.pt,sQ x38.2.2.2.ts,x38.2.2.2.kt,29,2⟩::⟨x38.2.2.2.pe,zN (rE x38.2.2.2.ex),x38.2.2.2.ke,73,1⟩::⟨x38.2.2.2.z.pn,fX x38.2.2.2.z.L,x38.2.2.2.z.cn,77,14⟩::⟨x38.2.2.2.z.pc,aH x38.2.2.2.z.cs,x38.2.2.2.z.cc,62,1⟩::Av x38.2.2.2.ex) (λ y2=>x38.2.2.2.ts.length-y2) (0) (Nat.zero_le _) (λ y2 f hx=>?_) (hw0:=λ w hw=>hw.back (hH:=by exact List.Sublist.refl _) (hF:=aP.all) (hO:=by exact List.Sublist.refl _));refine K0a ?_;all_goals (refine Kc0 ?_)
     all_goals
     refine bA (λ c63=>?_) (λ c63=>?_)
     ·all_goals try (first|contradiction|(exfalso;omega))
      all_goals (refine Ke1 ?_;refine aE (ie (cs:=sQ x38.2.2.2.ts) (k:=y2) rf rf eC dR (.own .head) (by omega) (by rw[qB];omega)) rfl ?_;refine aE (Sx (ts:=x38.2.2.2.ts) (q:=y2) rf dR (.own .head) (by omega)) rfl ?_;refine aT (λ x19=>?_);refine J5 ?_;refine aV ?_;refine gP [0,1,2,3,4,5,6,7,8,9,10,11,12,13,14] ?_;refine aZ ?_;refine aZ ?_;refine mz ?_;refine cA (i:=6) (hq:=(cV (v:=.bool true) (hc:=λ w1 hw=>Ai (gen:=q.1.gen) (cc:=q.1.cc) (hq.st hw) (hw.cl (.bO .head)) hq.Ic hq.hash (by omega) (by omega) (hq.cap.elim id λ e=>by rw[e.1,e.2];exact SF.aBR hw) hq.ys (by omega) _ _ (hW.root (by decide) (rS (ts:=x38.2.2.2.ts) (j:=y2) (by omega))) hm))) (h:=λ x72=>?_);refine zJ ?_;refine aL ?_)
      all_goals ((refine aZ ?_))
      all_goals (((refine aZ ?_));((refine aL ?_));((refine cA (i:=12) (hq:=(cV (v:=.bool true) (hc:=λ w1 hw=>Ai (gen:=q.1.gen) (cc:=q.1.cc) (hq.st hw) (hw.cl (.bO .head)) hq.Ic hq.hash (by omega) (by omega) (hq.cap.elim id λ e=>by rw[e.1,e.2];exact SF.aBR hw) hq.ys (by omega) _ _ (hW.root (by decide) (rS (ts:=x38.2.2.2.ts) (j:=y2) (by omega))) hmm))) (h:=λ x78=>?_)));((refine zJ ?_));refine eS ?_;refine dJ ?_)
      all_goals
       refine bA (λ c80=>?_) (λ c80=>?_)
       ·exact nv c80
       ·all_goals try (first|contradiction|(exfalso;omega))
        all_goals (refine Kc9 ?_)
        all_goals
        refine gT (y2+1) ?_ (hw1:=λ w hw=>hw.zA1)
        ·(show y2+1<=_;omega)
     ·all_goals try (first|contradiction|(exfalso;omega))
      all_goals (refine Zb ?_;refine sK ?_)
      all_goals
       refine gT (y+1) ?_ (hw1:=λ w hw=>hw.back (hH:=.cons _ (List.Sublist.refl _)) (hF:=aP.kJ λ f hf=>List.mem_append_right _ hf))
       ·(show y+1<=2;omega)
   ·all_goals try (first|contradiction|(exfalso;omega))
    all_goals (refine bM rfl ?_;refine J0 ?_;refine aS (cV (v:=.bool true) (hc:=λ w1 hw=>Yk (hw.cl (.bO .head)))) (λ x82=>?_);refine J1 ?_)
    all_goals
     refine aR Tryz.results3 (λ w hw=>?_);first
     | exact⟨rfl,hw.done⟩
     | (exfalso;simp_all;done)
end

end Go.Proofs.YtadnboagdhcedaaGreatDoor
