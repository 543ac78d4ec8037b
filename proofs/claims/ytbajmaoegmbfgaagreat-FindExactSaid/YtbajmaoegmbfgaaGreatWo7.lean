/- Worlds: Worlds. -/
import Derived.Test.YtbajmaoegmbfgaaGreatGWo6
import Derived.Test.YtbajmaoegmbfgaaGreatGEqs
set_option linter.unusedSimpArgs false
set_option linter.unusedVariables false
namespace Go.Proofs.YtbajmaoegmbfgaaGreat
open Go Go.RowKit Go.Ct
theorem P2(x y:AX)(acc:Int)(pn:Option Addr)(cn:Nat)(pc:Option Addr)(cc:Nat):(XS.new (L4 x y) [0,3,4] 1 acc pn cn pc cc).Ok:=by
 have hmem:∀v∈L4 x y,v=eY∨v=oE Z8 [] [] 0 x∨v=oE (xp 1) [] [] 1 y:=λ v hv=>by
  simp[L4] at hv
  exact hv
 refine⟨λ v hv=>?_,λ v hv=>?_,λ v hv=>?_,(λ v hv=>nomatch hv),(λ v hv=>nomatch hv),by show 2<=4;decide,by show 4<=_;decide,by show 3<=_;decide,Nat.zero_le _,Nat.le_refl _,Nat.le_refl _,Nat.le_refl _,Nat.le_refl _,Nat.zero_le _,λ v hv=>?_,by show(0:Int)<=1;decide,(λ i j _ hj=>absurd hj (Nat.not_lt_zero j)),(λ v hv=>nomatch hv)⟩
 ·rcases hmem v hv with rfl|rfl|rfl
  ·exact⟨rfl,rfl,by decide,by decide⟩
  ·exact Lv (by decide) (by decide)
  ·exact Lv (by decide) (by decide)
 ·have z:(0:Int)<=((4:Nat):Int):=by decide
  have z3:(0:Int)<=((3:Nat):Int):=by decide
  rcases hmem v hv with rfl|rfl|rfl
  ·exact⟨z,z,z,(λ r hr=>nomatch hr),z3,z3,z3,jD,jD⟩
  ·exact⟨z,z,z,(λ r hr=>nomatch hr),z3,by show(1:Int)<=((3:Nat):Int);decide,z3,jD,jD⟩
  ·exact⟨z,z,z,(λ r hr=>nomatch hr),by show(2:Int)<=((3:Nat):Int);decide,z3,z3,jD,jD⟩
 ·have hv':v=0∨v=3∨v=4:=by simpa[XS.new] using hv
  show v<=((4:Nat):Int)
  omega
 ·rcases hmem v hv with rfl|rfl|rfl<;>exact Nat.zero_le _
def kinds:List Int:=[8,8,8,9,9,10,11,12,7,8]
theorem gf{v:Nat}(h:v<10):7<=kinds.getD v 0/\kinds.getD v 0<=12:=by
 have:v=0∨v=1∨v=2∨v=3∨v=4∨v=5∨v=6∨v=7∨v=8∨v=9:=by omega
 rcases this with rfl|rfl|rfl|rfl|rfl|rfl|rfl|rfl|rfl|rfl<;>decide
theorem ig{v:Nat}(h:v<10):∃m:Nat,Ak.getD v 0=(m:Int)/\m<18446744073709551616:=by
 have:v=0∨v=1∨v=2∨v=3∨v=4∨v=5∨v=6∨v=7∨v=8∨v=9:=by omega
 refine⟨(Ak.getD v 0).toNat,?_⟩
 rcases this with rfl|rfl|rfl|rfl|rfl|rfl|rfl|rfl|rfl|rfl<;>decide
theorem U6.mono{m B C E B' C' E':Nat}{W:Wd}(h:U6 m B C E W)(hB:B<=B')(hC:C<=C')(hE:E<=E'):U6 m B' C' E' W:=by
 obtain⟨s1,s2,s3⟩:=h.sz
 exact⟨h.z,⟨by omega,by omega,by omega⟩,λ e he=>by have:=h.ex e he;exact⟨this.i,this.k,this.em,this.ht,this.ha,by have:=this.gl;omega⟩,h.t0,h.tr,h.tl,by have:=h.el;omega,h.wr⟩
section
variable{S:List (Nat×Value)}{w0 w:World}{M:List Nat}{H:List (Nat×Obj)}{A F:Fr}{O:List Ow}{ty:TypeId}{pos:String}{af:Array Edge}{gd:Option (Nat×Bool)}{X:Type}{V:X->Value}
theorem cT(nH nO:Nat){φ:X->Prop}{hs:List (Nat×Obj)}{os:List Ow}{hs' H1:X->List (Nat×Obj)}{os' O1:X->List Ow}{Fc F1:X->Fr}{A0:Fr}{f:FuncId}{xs:List Operand}{at_:Array TypeId}{vs:List Value}{dst:Option Nat}
  (hc:∀w,SF w (Ks hs os) hs A0 [] os w->Calls Tryz.prog f ⟨vs⟩ w λ e w'=>∃x,e=.returned (V x)/\φ x/\SF w (Ks hs os) (hs' x) [] (Fc x) (os' x) w')
  (hA:bA A F (O.take nO) A0) (hF1:∀x,φ x->∀f∈F1 x,f.2=[]∨f∈Fc x++F)
  (ha:oW S xs=vs:=by(repeat (first|exact cC _|(apply bU;focus ((conv=>{lhs;whnf});try exact rfl))));first|done|fail) (hp:plain Tryz.prog f=true:=by kernel_rfl)
  (hH:H=H.take nH++hs:=by exact rfl) (hO:O=O.take nO++os:=by exact rfl)
  (hH1:∀x,H.take nH++hs' x=H1 x:=by intro x;simp only[List.take_succ_cons,List.take_zero,List.cons_append,List.nil_append,wH];exact rfl) (hO1:∀x,O.take nO++os' x=O1 x:=by intro x;simp only[List.take_succ_cons,List.take_zero,List.cons_append,List.nil_append,wO];exact rfl) :
  bF Tryz.prog S (SF w0 M H A F O) ⟨dst,.call {callee:=.value (.func f),args:=⟨xs⟩,argTypes:=at_},ty,pos,af,gd⟩ X V (λ x w=>φ x/\SF w0 M (H1 x) A (F1 x) (O1 x) w) :=
 gB (mF hp ha) λ w hw=>(rT (H':=H.take nH) (O':=O.take nO) hw ((List.Perm.of_eq hH).trans List.perm_append_comm) ((List.Perm.of_eq hO).trans List.perm_append_comm) hA (hc w)).mono λ _ _ ⟨x,he,hx,hs⟩=>⟨x,he,hx,by
  have h2:=(hs.perm (H':=H1 x) (O':=O1 x) (by rw[<- hH1 x];exact List.perm_append_comm) (by rw[<- hO1 x];exact List.perm_append_comm)).fC (hF1 x hx)
  exact h2⟩
end
theorem Tg(l:List EX):(sE l).length=l.length:=by simp[sE]
theorem y7{es:List Nat}{k:Nat}(h:k<es.length):(Az es)[k]?=some (.pointer (some ⟨es.getD k 0,0,none⟩)):=by
 simp[Az,kP,h]
structure WY where
 i:Nat
 pos:Nat
 W:Wd
structure WYI(m:Nat)(y:WY):Prop where
 hi:y.i<=18
 ok:U6 m (8+134217920*y.i) (1048576+y.i) y.i y.W
theorem M7.Ho{kind:Int}{ts:List fY}{q:Bj}(h:M7 kind ts q)(p:Int):M7 kind ts {q with Ho:=p}:=⟨h.ky,h.mem,h.ro⟩
set_option maxRecDepth 100000 in
set_option maxHeartbeats 4000000 in
theorem gj{l:List Int}{a:Option Addr}{c:Nat}{w:World}(ha:Go.Ct.Cl w a (aH l))(hl:l.length<=17592186043904) :
  Calls Tryz.prog 19 #[.slice a l.length c] w λ e w'=>∃q:Nat×Nat×Nat×Wd,e=.returned (.pointer (some ⟨q.1,0,none⟩))/\(q.2.2.1<18446744073709551616/\U6 q.2.2.1 2415922570 1048594 18 q.2.2.2)/\SF w [] (wH q.2.2.1 q.1 q.2.1 q.2.2.2) [] (aM q.2.2.2.z.L) (wO q.2.2.2) w':=by
 refine enter Tryz.func19 Tryz.ntmps19 rfl rfl (SF.s1 ha) ?_
 simp only[bY]
 refine cQ ?_;refine J2 ?_;refine aC (Ra (Fc:=λ _=>[]) (Oc:=λ _=>[]) (hc:=λ w1 hw=>jx)) (λ x10 h10=>?_);refine J1 ?_;refine J0 ?_;refine aC (Ra (Fc:=λ _=>[]) (hc:=λ w1 hw=>au w1)) (λ x11 h11=>?_);refine aA ?_;refine aC (wN (hc:=λ w1 hw=>ye (hw.tape cK fin hl))) (λ x13 h13=>?_);refine bJ ?_;refine bN (λ x15=>?_);refine vP ?_;refine dF ?_;refine J3 ?_;refine aC (cM (hc:=λ w hs=>Od hs)) (λ x21 h21=>?_);refine aQ (ar (sz:=2) (cs:=tH [⟨3,false⟩]) G5 Jp rfl rfl rfl rfl rfl rfl) (λ x22=>?_);refine N0 ?_;refine aV ?_;refine Hr ?_
 obtain⟨m,em,hm⟩:=ig h13
 refine oB [5,6,7,8,25,26,27,28,29,30,31,32,33,34,35,36,37,38,39,40,41,42,43,44,45,46,47,48,49,50,51,52,53,54,55,56,57,58,59,60,61,62,63,64,65,66,67,68,69,70,71,72,73,74,75,76,77,78,79,80,81,82,83,84,85,86,87,88,89,90,91,92,93,94,95,96,97,98] (λ y:WY=>[(5,.int .i64 ((y.i:Nat):Int))]) (λ y=>WYI m y) (λ y=>(x10,Dv a l c y.pos)::(x15,nR x11.1 (m:Int) y.W.pt y.W.ts.length y.W.kt y.W.pe (sE y.W.ex).length y.W.ke)::(x11.1,xM y.W.z)::qQ x11.1 y.W.ex) (λ y=>aM y.W.z.L) (λ y=>⟨y.W.pt,tH y.W.ts,y.W.kt,29,2⟩::⟨y.W.pe,Az (sE y.W.ex),y.W.ke,74,1⟩::⟨y.W.z.pn,gY y.W.z.L,y.W.z.cn,47,14⟩::⟨y.W.z.pc,aH y.W.z.cs,y.W.z.cc,37,1⟩::oU y.W.ex) (λ y=>18-y.i) (⟨0,lJ l 0,⟨XS.new (L4 x21.1 x21.2.1) [0,3,4] 1 0 x21.2.1.pn x21.2.1.cn x21.2.2.1 x21.2.2.2,[⟨3,false⟩],some ⟨x22,0,none⟩,1,[],none,0⟩⟩) (⟨by show(0:Nat)<=18;decide,P2 _ _ _ _ _ _ _,⟨by show 4<=8+134217920*0;decide,by show 3<=8+134217920*0;decide,by show(1:Int)<=((8+134217920*0:Nat):Int);decide⟩,(λ e he=>nomatch he),by show 0<1;decide,rfl,by show 1<=5;decide,Nat.le_refl _,.new⟩) (λ y f hx=>?_) (hw0:=λ w hw=>by rw[em,List.append_nil] at hw;exact(hw.lZ 74 1).perm (List.perm_append_comm (l₁:=[_]) (l₂:=[_,_])) (List.Perm.swap _ _ _))
 dsimp only[gU,List.map,List.cons_append,List.nil_append]
 have hy:=hx
 refine kK ?_;refine G7 ?_
 (refine eM 27 (λ g27=>?_) (λ g27=>?_)<;>(first|refine aJ ?_|(refine aF ?_;refine aA ?_)))
 all_goals ((first|refine aJ ?_|(refine aF ?_;refine aC (wN (hc:=λ w1 hw=>aw (hw.tape cK fin hl))) (λ x29 h29=>?_)));refine cH ?_;refine aG ?_)
 all_goals
 refine bE (λ c30=>?_) (λ c30=>?_)
 ·try exact nv c30
  all_goals (refine qP ?_;refine J0 ?_;refine aQ ((by exact H6 (λ _=>cP (cs:=aH kinds) Eu Jp rfl rfl rfl rfl rfl))) (λ x33=>?_);refine aA ?_;refine aC (wN (hc:=λ w1 hw=>eQ 10 (hw.tape cK fin hl) (by decide) (by decide))) (λ x35 h35=>?_);refine aB (eZ (lst:=kinds) (k:=x35) rf rf hY iA (.new .head) (by omega) (by simp only[kinds,List.length_cons,List.length_nil];omega)) rfl ?_;refine aB (gX (lst:=kinds) (q:=x35) rf iA (.new .head) (by simp only[kinds,List.length_cons,List.length_nil];omega)) rfl ?_;refine iT ?_)
  all_goals
   refine eE [6,38,39,40,41,42,43,44] (λ q:Int×Nat=>[(6,.int .i64 q.1)]) (λ q=>7<=q.1/\q.1<=12) (λ q=>(x10,Dv a l c q.2)::(x15,nR x11.1 (m:Int) y.W.pt y.W.ts.length y.W.kt y.W.pe (sE y.W.ex).length y.W.ke)::(x11.1,xM y.W.z)::qQ x11.1 y.W.ex) (λ _=>aM y.W.z.L) (λ _=>⟨y.W.pt,tH y.W.ts,y.W.kt,29,2⟩::⟨y.W.pe,Az (sE y.W.ex),y.W.ke,74,1⟩::⟨y.W.z.pn,gY y.W.z.L,y.W.z.cn,47,14⟩::⟨y.W.z.pc,aH y.W.z.cs,y.W.z.cc,37,1⟩::oU y.W.ex) (by decide) (λ _=>by exact rfl) ?_ (λ q f hx=>?_)
   ·refine aV ?_
    refine wQ ?_;refine lV ?_;refine aA ?_
    (refine eM 40 (λ g40=>?_) (λ g40=>?_)<;>(first|refine aJ ?_|(refine aF ?_;refine aA ?_)))
    all_goals ((first|refine aJ ?_|(refine aF ?_;refine aC (wN (hc:=λ w1 hw=>eQ 3 (hw.tape cK fin hl) (by decide) (by decide))) (λ x42 h42=>?_)));refine Iz ?_;refine aG ?_)
    all_goals
    refine bE (λ c44=>?_) (λ c44=>?_)
    ·try exact nv c44
     all_goals (refine dW ?_;refine J1 ?_)
     all_goals
      refine eT ((8,lJ l (lJ l y.pos))) ?_ (hw1:=λ w hw=>hw.back (hF:=aX.hX λ f hf=>List.mem_cons_of_mem _ hf))
      ·exact⟨by show(7:Int)<=8;decide,by show(8:Int)<=12;decide⟩
    ·all_goals try (exfalso;omega)
     all_goals refine aZ ?_
     all_goals
      refine eT (by first|exact((λ _=>(kinds.getD x35 0,lJ l (lJ l y.pos))) x42)|exact(kinds.getD x35 0,lJ l y.pos)) ?_ (hw1:=λ w hw=>hw.back (hF:=aX.hX λ f hf=>List.mem_cons_of_mem _ hf))
      ·exact gf (by omega)
   dsimp only[gU,List.map,List.cons_append,List.nil_append]
   have hq:=hx
  all_goals (refine iM ?_;refine aA ?_;refine aC (cM (hs:=[(x10,Dv a l c q.2),(x15,nR x11.1 (m:Int) y.W.pt y.W.ts.length y.W.kt y.W.pe (sE y.W.ex).length y.W.ke)]) (os:=[⟨y.W.pt,tH y.W.ts,y.W.kt,29,2⟩]) (A0:=[(a,aH l)]) (hc:=λ w hs=>V1 q.1 hq hl hy.ok.t0 (by have:=hy.ok.tl;omega) hy.ok.tr hs)) (λ x48 h48=>?_);refine aI (λ x7=>?_);refine J5 ?_;refine aV ?_)
  all_goals
   refine eE [49,50,51,52,53,54,55,56] (λ r:Int×Nat=>[]) (λ r=>True) (λ r=>(x7,.cells ⟨M9 (({x48 with Ho:=r.1}:Bj).cl q.1 (m:Int))⟩ 89 (0,0))::(x10,Dv a l c r.2)::(x15,nR x11.1 (m:Int) y.W.pt y.W.ts.length y.W.kt y.W.pe (sE y.W.ex).length y.W.ke)::(x11.1,xM y.W.z)::qQ x11.1 y.W.ex) (λ _=>aM y.W.z.L) (λ _=>⟨y.W.pt,tH y.W.ts,y.W.kt,29,2⟩::⟨y.W.pe,Az (sE y.W.ex),y.W.ke,74,1⟩::⟨y.W.z.pn,gY y.W.z.L,y.W.z.cn,47,14⟩::⟨y.W.z.pc,aH y.W.z.cs,y.W.z.cc,37,1⟩::oU y.W.ex) (by decide) (λ _=>by exact rfl) ?_ (λ r f hx=>?_)
   ·refine aV ?_
    refine wQ ?_;refine lV ?_;refine aA ?_
    (refine eM 51 (λ g51=>?_) (λ g51=>?_)<;>(first|refine aJ ?_|(refine aF ?_;refine aA ?_)))
    all_goals ((first|refine aJ ?_|(refine aF ?_;refine aC (wN (hc:=λ w1 hw=>eQ 3 (hw.tape cK fin hl) (by decide) (by decide))) (λ x53 h53=>?_)));refine Iz ?_;refine aG ?_)
    all_goals
    refine bE (λ c55=>?_) (λ c55=>?_)
    ·try exact nv c55
     all_goals (refine dW ?_;refine uE ?_)
     all_goals
      refine eT ((0,lJ l x48.pos)) ?_ (hw1:=λ w hw=>hw.back (hF:=aX.all))
      ·trivial
    ·all_goals try (exfalso;omega)
     all_goals refine aZ ?_
     all_goals
      refine eT (by first|exact((λ _=>(x48.Ho,lJ l x48.pos)) x53)|exact(x48.Ho,x48.pos)) ?_ (hw1:=λ w hw=>hw.back (hF:=aX.all))
      ·trivial
   dsimp only[gU,List.map,List.cons_append,List.nil_append]
  all_goals refine Hz ?_
  all_goals
   refine eE [8,57,58,59,60,61,62,63,64,65,66,67,68,69] (λ s:Nat×Nat=>[(8,.int .i64 ((s.1:Nat):Int))]) (λ s=>s.1<=1048576) (λ s=>(x7,.cells ⟨M9 (({x48 with Ho:=r.1}:Bj).cl q.1 (m:Int))⟩ 89 (0,0))::(x10,Dv a l c s.2)::(x15,nR x11.1 (m:Int) y.W.pt y.W.ts.length y.W.kt y.W.pe (sE y.W.ex).length y.W.ke)::(x11.1,xM y.W.z)::qQ x11.1 y.W.ex) (λ _=>aM y.W.z.L) (λ _=>⟨y.W.pt,tH y.W.ts,y.W.kt,29,2⟩::⟨y.W.pe,Az (sE y.W.ex),y.W.ke,74,1⟩::⟨y.W.z.pn,gY y.W.z.L,y.W.z.cn,47,14⟩::⟨y.W.z.pc,aH y.W.z.cs,y.W.z.cc,37,1⟩::oU y.W.ex) (by decide) (λ _=>by exact rfl) ?_ (λ s f hx=>?_)
   ·refine aV ?_
    refine wQ ?_;refine dF ?_;refine My ?_;refine G7 ?_
    (refine eM 63 (λ g63=>?_) (λ g63=>?_)<;>(first|refine aJ ?_|(refine aF ?_;refine aA ?_)))
    all_goals ((first|refine aJ ?_|(refine aF ?_;refine aC (wN (hc:=λ w1 hw=>eQ 4 (hw.tape cK fin hl) (by decide) (by decide))) (λ x65 h65=>?_)));refine yG ?_;refine aG ?_)
    all_goals
    refine bE (λ c67=>?_) (λ c67=>?_)
    ·try exact nv c67
     all_goals (refine wQ ?_;refine aC (wN (hc:=λ w1 hw=>eQ 16 (hw.tape cK fin hl) (by decide) (by decide))) (λ x69 h69=>?_);refine J1 ?_)
     all_goals
      refine eT ((x69,lJ l (lJ l r.2))) ?_ (hw1:=λ w hw=>hw.back (hF:=aX.all))
      ·show x69<=1048576;omega
    ·all_goals try (exfalso;omega)
     all_goals refine aZ ?_
     all_goals
      refine eT (by first|exact((λ _=>(1048576,lJ l r.2)) x65)|exact(1048576,r.2)) ?_ (hw1:=λ w hw=>hw.back (hF:=aX.all))
      ·exact Nat.le_refl 1048576
   dsimp only[gU,List.map,List.cons_append,List.nil_append]
   have hs1:=hx
  all_goals (refine J2 ?_;refine bR ?_;refine aA ?_;refine aC (cT 2 0 (hs:=wH m x15 x11.1 y.W) (os:=wO y.W) (A0:=aM y.W.z.L) (F1:=λ x:Wd×List aY=>aM x.1.z.L) (hc:=λ w hs=>py (q:={x48 with Ho:=r.1}) (kind:=q.1) s.1 hs1 (by omega) (by omega) hm hy.ok (by omega) hq (h48.Ho _) (λ f hf=>hf) hs) (hA:=bA.of λ f hf=>.inr (.inr (.inl hf))) (hF1:=λ x hx f hf=>by rw[hx.2,cY] at hf;exact .inr ((List.mem_append.1 hf).elim (λ h=>List.mem_append_right _ h) (λ h=>List.mem_append_left _ h)))) (λ x73 h73=>?_);refine aG ?_)
  all_goals
   refine eE [74,75,76,77,78,79,80,81,82,83,84,85,86,87,88,89,90,91,92,93,94,95,96,97,98] (λ u:Nat×Wd=>[]) (λ u=>U6 m (8+134217920*(y.i+1)) (1048576+(y.i+1)) (y.i+1) u.2) (λ u=>(x7,.cells ⟨M9 (({x48 with Ho:=r.1}:Bj).cl q.1 (m:Int))⟩ 89 (0,0))::(x10,Dv a l c u.1)::(x15,nR x11.1 (m:Int) u.2.pt u.2.ts.length u.2.kt u.2.pe (sE u.2.ex).length u.2.ke)::(x11.1,xM u.2.z)::qQ x11.1 u.2.ex) (λ u=>aM u.2.z.L) (λ u=>⟨u.2.pt,tH u.2.ts,u.2.kt,29,2⟩::⟨u.2.pe,Az (sE u.2.ex),u.2.ke,74,1⟩::⟨u.2.z.pn,gY u.2.z.L,u.2.z.cn,47,14⟩::⟨u.2.z.pc,aH u.2.z.cs,u.2.z.cc,37,1⟩::oU u.2.ex) (by decide) (λ _=>by exact rfl) ?_ (λ u f hx=>?_)
   ·refine aV ?_
    refine wQ ?_;refine dF ?_;refine My ?_;refine Da ?_;refine aA ?_
    (refine eM 80 (λ g80=>?_) (λ g80=>?_)<;>(first|refine aJ ?_|(refine aF ?_;refine aA ?_)))
    all_goals ((first|refine aJ ?_|(refine aF ?_;refine aC (wN (hc:=λ w1 hw=>eQ 3 (hw.tape cK fin hl) (by decide) (by decide))) (λ x82 h82=>?_)));refine yG ?_;refine aG ?_)
    all_goals
    refine bE (λ c84=>?_) (λ c84=>?_)
    ·try exact nv c84
     all_goals (refine dZ [(0,[]),(1,[]),(2,[]),(3,[]),(4,[]),(5,[]),(6,[]),(7,[]),(8,[]),(9,[]),(10,[3]),(11,[]),(12,[]),(13,[])] ?_;refine ou ?_;refine Yu ?_;refine pE ?_;refine bD (i:=10) (hq:=(wN (hc:=λ w1 hw=>eQ ((sE x73.1.ex).length:Nat) (hw.tape cK fin hl) (by omega) (by rw[Tg];have:=h73.1.el;omega)))) (h:=λ x95 h95=>?_);refine bT (i:=11) (hq:=(sw (cs:=Az (sE x73.1.ex)) (k:=x95) rf rf hY iA (.own (.tail .head)) (by omega) (by rw[Fq];omega))) (h:=?_);refine bT (i:=12) (hq:=(Ej (cs:=Az (sE x73.1.ex)) (v:=.pointer (some ⟨(sE x73.1.ex).getD x95 0,0,none⟩)) rf iA (.own (.tail .head)) (y7 (by omega)))) (h:=?_);refine bD (i:=13) (hq:=(cT 2 0 (hs:=wH m x15 x11.1 x73.1) (os:=wO x73.1) (A0:=aM x73.1.z.L) (F1:=λ x:Wd×List aY=>aM x.1.z.L) (hc:=λ w hs=>jw (i:=x95) (by rw[<- Tg];omega) (by omega) (by omega) hm h73.1 (λ f hf=>hf) hs) (hA:=bA.of λ f hf=>.inr (.inr (.inl hf))) (hF1:=λ x hx f hf=>by rw[hx.2.2,cY] at hf;exact .inr ((List.mem_append.1 hf).elim (λ h=>List.mem_append_right _ h) (λ h=>List.mem_append_left _ h))))) (h:=λ x98 h98=>?_);refine eA ?_)
     all_goals
      refine eT ((lJ l (lJ l s.2),x98.1)) ?_ (hw1:=λ w hw=>hw.back (hF:=aX.all))
      ·exact h98.1.mono (by omega) (by omega) (Nat.le_refl _)
    ·all_goals try (exfalso;omega)
     all_goals refine aZ ?_
     all_goals
      refine eT (by first|exact((λ _=>(lJ l s.2,x73.1)) x82)|exact(s.2,x73.1)) ?_ (hw1:=λ w hw=>hw.back (hF:=aX.all))
      ·exact h73.1.mono (by omega) (by omega) (Nat.le_refl _)
   dsimp only[gU,List.map,List.cons_append,List.nil_append]
  all_goals (refine eU ?_;refine yU ?_)
  all_goals
   refine iS (⟨y.i+1,u.1,u.2⟩) ?_ (hw1:=λ w hw=>hw.back (hF:=aX.all))
   ·exact⟨by show y.i+1<=18;omega,hx⟩
 ·all_goals try (exfalso;omega)
  all_goals (refine bM rfl ?_;refine J2 ?_;refine J1 ?_)
  all_goals
   refine aT Tryz.results19 (λ w hw=>?_)
   exact⟨(x15,x11.1,m,y.W),rfl,⟨hm,hy.ok.mono (by have:=hy.hi;omega) (by have:=hy.hi;omega) hy.hi⟩,hw.aU (hH:=List.Sublist.cons _ (List.Sublist.refl _)) (hF:=by exact aX.all) (hO:=List.Sublist.refl _)⟩
end Go.Proofs.YtbajmaoegmbfgaaGreat
