/- Worlds: Worlds. -/
import Derived.Test.YtpobgmdalcpomaaGreatGWr1
import Derived.Test.YtpobgmdalcpomaaGreatGPl1
set_option linter.unusedSimpArgs false
set_option linter.unusedVariables false
namespace Go.Proofs.YtpobgmdalcpomaaGreat
open Go Go.RowKit Go.Ct
theorem wa(x y:AX)(acc:Int)(pn:Option Addr)(cn:Nat)(pc:Option Addr)(cc:Nat):(XS.new (L4 x y) [0,3,4] 1 acc pn cn pc cc).Ok:=by
 have hmem:∀v∈L4 x y,v=dE∨v=gK Yc [] [] 0 x∨v=gK (sj 1) [] [] 1 y:=λ v hv=>by
  simp[L4] at hv
  exact hv
 refine⟨λ v hv=>?_,λ v hv=>?_,λ v hv=>?_,(λ v hv=>nomatch hv),(λ v hv=>nomatch hv),by show 2<=4;decide,by show 4<=_;decide,by show 3<=_;decide,Nat.zero_le _,Nat.le_refl _,Nat.le_refl _,Nat.le_refl _,Nat.le_refl _,Nat.zero_le _,λ v hv=>?_,by show(0:Int)<=1;decide,(λ i j _ hj=>absurd hj (Nat.not_lt_zero j)),(λ v hv=>nomatch hv)⟩
 ·rcases hmem v hv with rfl|rfl|rfl
  ·exact⟨rfl,rfl,by decide,by decide⟩
  ·exact A7 (by decide) (by decide)
  ·exact A7 (by decide) (by decide)
 ·have z:(0:Int)<=((4:Nat):Int):=by decide
  have z3:(0:Int)<=((3:Nat):Int):=by decide
  rcases hmem v hv with rfl|rfl|rfl
  ·exact⟨z,z,z,(λ r hr=>nomatch hr),z3,z3,z3,jJ,jJ⟩
  ·exact⟨z,z,z,(λ r hr=>nomatch hr),z3,by show(1:Int)<=((3:Nat):Int);decide,z3,jJ,jJ⟩
  ·exact⟨z,z,z,(λ r hr=>nomatch hr),by show(2:Int)<=((3:Nat):Int);decide,z3,z3,jJ,jJ⟩
 ·have hv':v=0∨v=3∨v=4:=by simpa[XS.new] using hv
  show v<=((4:Nat):Int)
  omega
 ·rcases hmem v hv with rfl|rfl|rfl<;>exact Nat.zero_le _
def kinds:List Int:=[8,8,8,9,9,10,11,12,7,8]
theorem aq{v:Nat}(h:v<10):7<=kinds.getD v 0/\kinds.getD v 0<=12:=by
 have:v=0∨v=1∨v=2∨v=3∨v=4∨v=5∨v=6∨v=7∨v=8∨v=9:=by omega
 rcases this with rfl|rfl|rfl|rfl|rfl|rfl|rfl|rfl|rfl|rfl<;>decide
theorem Z2{v:Nat}(h:v<10):∃m:Nat,yU.getD v 0=(m:Int)/\m<18446744073709551616:=by
 have:v=0∨v=1∨v=2∨v=3∨v=4∨v=5∨v=6∨v=7∨v=8∨v=9:=by omega
 refine⟨(yU.getD v 0).toNat,?_⟩
 rcases this with rfl|rfl|rfl|rfl|rfl|rfl|rfl|rfl|rfl|rfl<;>decide
theorem Rk.mono{m B C E B' C' E':Nat}{W:Wd}(h:Rk m B C E W)(hB:B<=B')(hC:C<=C')(hE:E<=E'):Rk m B' C' E' W:=by
 obtain⟨s1,s2,s3⟩:=h.sz
 exact⟨h.z,⟨by omega,by omega,by omega⟩,λ e he=>by have:=h.ex e he;exact⟨this.i,this.k,this.em,this.ht,this.ha,by have:=this.gl;omega⟩,h.t0,h.tr,h.tl,by have:=h.el;omega,h.wr⟩
section
variable{S:List (Nat×Value)}{w0 w:World}{M:List Nat}{H:List (Nat×Obj)}{A F:Fr}{O:List Ow}{ty:TypeId}{pos:String}{af:Array Edge}{gd:Option (Nat×Bool)}{X:Type}{V:X->Value}
theorem cT(nH nO:Nat){φ:X->Prop}{hs:List (Nat×Obj)}{os:List Ow}{hs' H1:X->List (Nat×Obj)}{os' O1:X->List Ow}{Fc F1:X->Fr}{A0:Fr}{f:FuncId}{xs:List Operand}{at_:Array TypeId}{vs:List Value}{dst:Option Nat}
  (hc:∀w,SF w (Ks hs os) hs A0 [] os w->Calls Tryz.prog f ⟨vs⟩ w λ e w'=>∃x,e=.returned (V x)/\φ x/\SF w (Ks hs os) (hs' x) [] (Fc x) (os' x) w')
  (hA:dA A F (O.take nO) A0) (hF1:∀x,φ x->∀f∈F1 x,f.2=[]∨f∈Fc x++F)
  (ha:zT S xs=vs:=by(repeat (first|exact pW _|(apply nD;focus ((conv=>{lhs;whnf});try exact rfl))));first|done|fail) (hp:plain Tryz.prog f=true:=by kernel_rfl)
  (hH:H=H.take nH++hs:=by exact rfl) (hO:O=O.take nO++os:=by exact rfl)
  (hH1:∀x,H.take nH++hs' x=H1 x:=by intro x;simp only[List.take_succ_cons,List.take_zero,List.cons_append,List.nil_append,wH];exact rfl) (hO1:∀x,O.take nO++os' x=O1 x:=by intro x;simp only[List.take_succ_cons,List.take_zero,List.cons_append,List.nil_append,wO];exact rfl) :
  aP Tryz.prog S (SF w0 M H A F O) ⟨dst,.call {callee:=.value (.func f),args:=⟨xs⟩,argTypes:=at_},ty,pos,af,gd⟩ X V (λ x w=>φ x/\SF w0 M (H1 x) A (F1 x) (O1 x) w) :=
 lM (nR hp ha) λ w hw=>(I6 (H':=H.take nH) (O':=O.take nO) hw ((List.Perm.of_eq hH).trans List.perm_append_comm) ((List.Perm.of_eq hO).trans List.perm_append_comm) hA (hc w)).mono λ _ _ ⟨x,he,hx,hs⟩=>⟨x,he,hx,by
  have h2:=(hs.perm (H':=H1 x) (O':=O1 x) (by rw[<- hH1 x];exact List.perm_append_comm) (by rw[<- hO1 x];exact List.perm_append_comm)).dO (hF1 x hx)
  exact h2⟩
end
theorem Se(l:List EX):(rL l).length=l.length:=by simp[rL]
theorem rb{es:List Nat}{k:Nat}(h:k<es.length):(yR es)[k]?=some (.pointer (some ⟨es.getD k 0,0,none⟩)):=by
 simp[yR,gdg,h]
structure WY where
 i:Nat
 pos:Nat
 W:Wd
structure z9(m:Nat)(y:WY):Prop where
 hi:y.i<=18
 ok:Rk m (8+134217920*y.i) (1048576+y.i) y.i y.W
theorem N9.Gz{kind:Int}{ts:List iV}{q:Ey}(h:N9 kind ts q)(p:Int):N9 kind ts {q with Gz:=p}:=⟨h.ky,h.mem,h.ro⟩
set_option maxRecDepth 100000 in
set_option maxHeartbeats 4000000 in
theorem W6{l:List Int}{a:Option Addr}{c:Nat}{w:World}(ha:Go.Ct.Cl w a (aJ l))(hl:l.length<=17592186043904) :
    Calls Tryz.prog 7 #[.slice a l.length c] w λ e w'=>∃q:Nat×Nat×Nat×Wd,e=.returned (.pointer (some ⟨q.1,0,none⟩))/\(q.2.2.1<18446744073709551616/\Rk q.2.2.1 2415922570 1048594 18 q.2.2.2)/\SF w [] (wH q.2.2.1 q.1 q.2.1 q.2.2.2) [] (bG q.2.2.2.z.L) (wO q.2.2.2) w':=by
  refine enter Tryz.func7 Tryz.ntmps7 rfl rfl (SF.s1 ha) ?_
  simp only[dB]
  all_goals (refine dH ?_;refine J2 ?_;(refine aF (Y0 (Fc:=λ _=>[]) (Oc:=λ _=>[]) (hc:=λ w1 hw=>wo)) (λ x10=>?_);try (refine aB (λ h10=>?_)));refine J1 ?_;refine J0 ?_;(refine aF (Y0 (Fc:=λ _=>[]) (hc:=λ w1 hw=>Zn w1)) (λ x11=>?_);try (refine aB (λ h11=>?_)));refine aA ?_;(refine aF (xJ (hc:=λ w1 hw=>p8 (hw.tape cQ fin hl))) (λ x13=>?_);try (refine aB (λ h13=>?_)));refine bV ?_;refine bM (λ x15=>?_);refine yQ ?_;refine eF ?_;refine J3 ?_;(refine aF (cM (hc:=λ w hs=>Xn hs)) (λ x21=>?_);try (refine aB (λ h21=>?_)));refine aF (Nu (sz:=2) (cs:=sU [⟨3,false⟩]) Fg Ei rfl rfl rfl rfl rfl rfl) (λ x22=>?_);refine Lj ?_;refine aT ?_;refine Cq ?_)
  all_goals
   obtain⟨m,em,hm⟩:=Z2 h13
   refine lO [5,6,7,8,25,26,27,28,29,30,31,32,33,34,35,36,37,38,39,40,41,42,43,44,45,46,47,48,49,50,51,52,53,54,55,56,57,58,59,60,61,62,63,64,65,66,67,68,69,70,71,72,73,74,75,76,77,78,79,80,81,82,83,84,85,86,87,88,89,90,91,92,93,94,95,96,97,98] (λ y:WY=>[(5,.int .i64 ((y.i:Nat):Int))]) (λ y=>z9 m y) (λ y=>(x10,O5 a l c y.pos)::(x15,nX x11.1 (m:Int) y.W.pt y.W.ts.length y.W.kt y.W.pe (rL y.W.ex).length y.W.ke)::(x11.1,xM y.W.z)::uT x11.1 y.W.ex) (λ y=>bG y.W.z.L) (λ y=>⟨y.W.pt,sU y.W.ts,y.W.kt,33,2⟩::⟨y.W.pe,yR (rL y.W.ex),y.W.ke,86,1⟩::⟨y.W.z.pn,iD y.W.z.L,y.W.z.cn,59,14⟩::⟨y.W.z.pc,aJ y.W.z.cs,y.W.z.cc,52,1⟩::qV y.W.ex) (λ y=>18-y.i) (⟨0,nS l 0,⟨XS.new (L4 x21.1 x21.2.1) [0,3,4] 1 0 x21.2.1.pn x21.2.1.cn x21.2.2.1 x21.2.2.2,[⟨3,false⟩],some ⟨x22,0,none⟩,1,[],none,0⟩⟩) (⟨by show(0:Nat)<=18;decide,wa _ _ _ _ _ _ _,⟨by show 4<=8+134217920*0;decide,by show 3<=8+134217920*0;decide,by show(1:Int)<=((8+134217920*0:Nat):Int);decide⟩,(λ e he=>nomatch he),by show 0<1;decide,rfl,by show 1<=5;decide,Nat.le_refl _,.new⟩) (λ y f hx=>?_) (hw0:=λ w hw=>by rw[em,List.append_nil] at hw;exact(hw.jK 86 1).perm (List.perm_append_comm (l₁:=[_]) (l₂:=[_,_])) (List.Perm.swap _ _ _))
   dsimp only[gW,List.map,List.cons_append,List.nil_append]
   have hy:=hx
   all_goals (refine jS ?_;refine Am ?_)
   all_goals (first|refine aG ?_|(refine aC ?_;refine aA ?_)|(refine dG 27 (λ g27=>?_) (λ g27=>?_)<;>(try (exfalso;omega))<;>(first|refine aG ?_|(refine aC ?_;refine aA ?_))))
   all_goals (((first|refine aG ?_|(refine aC ?_;(refine aF (xJ (hc:=λ w1 hw=>n9 (hw.tape cQ fin hl))) (λ x29=>?_);try (refine aB (λ h29=>?_))))));refine cH ?_;refine aN ?_)
   all_goals
    refine bF (λ c30=>?_) (λ c30=>?_)
    · try exact nv c30
      all_goals try (exfalso;omega)
      all_goals (refine oD ?_;refine J0 ?_;refine aF ((by exact Cx (λ _=>cS (cs:=aJ kinds) E6 Ei rfl rfl rfl rfl rfl))) (λ x33=>?_);refine aA ?_;(refine aF (xJ (hc:=λ w1 hw=>fO 10 (hw.tape cQ fin hl) (by decide) (by decide))) (λ x35=>?_);try (refine aB (λ h35=>?_)));refine aH (bW (lst:=kinds) (k:=x35) rf rf fG bU (.new .head) (by omega) (by simp only[kinds,List.length_cons,List.length_nil];omega)) rfl ?_;refine aH (cJ (lst:=kinds) (q:=x35) rf bU (.new .head) (by simp only[kinds,List.length_cons,List.length_nil];omega)) rfl ?_;refine iI ?_)
      all_goals
       refine fH [6,38,39,40,41,42,43,44] (λ q:Int×Nat=>[(6,.int .i64 q.1)]) (λ q=>7<=q.1/\q.1<=12) (λ q=>(x10,O5 a l c q.2)::(x15,nX x11.1 (m:Int) y.W.pt y.W.ts.length y.W.kt y.W.pe (rL y.W.ex).length y.W.ke)::(x11.1,xM y.W.z)::uT x11.1 y.W.ex) (λ _=>bG y.W.z.L) (λ _=>⟨y.W.pt,sU y.W.ts,y.W.kt,33,2⟩::⟨y.W.pe,yR (rL y.W.ex),y.W.ke,86,1⟩::⟨y.W.z.pn,iD y.W.z.L,y.W.z.cn,59,14⟩::⟨y.W.z.pc,aJ y.W.z.cs,y.W.z.cc,52,1⟩::qV y.W.ex) (by decide) (λ _=>by exact rfl) ?_ (λ q f hx=>?_)
       · all_goals (refine aT ?_)
         all_goals (refine xU ?_;refine kV ?_;refine aA ?_)
         all_goals (first|refine aG ?_|(refine aC ?_;refine aA ?_)|(refine dG 40 (λ g40=>?_) (λ g40=>?_)<;>(try (exfalso;omega))<;>(first|refine aG ?_|(refine aC ?_;refine aA ?_))))
         all_goals (((first|refine aG ?_|(refine aC ?_;(refine aF (xJ (hc:=λ w1 hw=>fO 3 (hw.tape cQ fin hl) (by decide) (by decide))) (λ x42=>?_);try (refine aB (λ h42=>?_))))));refine xV ?_;refine aN ?_)
         all_goals
          refine bF (λ c44=>?_) (λ c44=>?_)
          · try exact nv c44
            all_goals try (exfalso;omega)
            all_goals (refine dD ?_;refine J1 ?_)
            all_goals
             refine fM ((8,nS l (nS l y.pos))) ?_ (hw1:=λ w hw=>hw.back (hF:=aW.jM λ f hf=>List.mem_cons_of_mem _ hf))
             · exact⟨by show(7:Int)<=8;decide,by show(8:Int)<=12;decide⟩
          · try exact nv c44
            all_goals try (exfalso;omega)
            all_goals refine aZ ?_
            all_goals
             refine fM (by first|exact((λ _=>(kinds.getD x35 0,nS l (nS l y.pos))) x42)|exact(kinds.getD x35 0,nS l y.pos)) ?_ (hw1:=λ w hw=>hw.back (hF:=aW.jM λ f hf=>List.mem_cons_of_mem _ hf))
             · exact aq (by omega)
       dsimp only[gW,List.map,List.cons_append,List.nil_append]
       have hq:=hx
      all_goals (refine jE ?_;refine aA ?_;(refine aF (cM (hs:=[(x10,O5 a l c q.2),(x15,nX x11.1 (m:Int) y.W.pt y.W.ts.length y.W.kt y.W.pe (rL y.W.ex).length y.W.ke)]) (os:=[⟨y.W.pt,sU y.W.ts,y.W.kt,33,2⟩]) (A0:=[(a,aJ l)]) (hc:=λ w hs=>jj q.1 hq hl hy.ok.t0 (by have:=hy.ok.tl;omega) hy.ok.tr hs)) (λ x48=>?_);try (refine aB (λ h48=>?_)));refine aY (λ x7=>?_);refine J5 ?_;refine aT ?_)
      all_goals
       refine fH [49,50,51,52,53,54,55,56] (λ r:Int×Nat=>[]) (λ r=>True) (λ r=>(x7,.cells ⟨O0 (({x48 with Gz:=r.1}:Ey).cl q.1 (m:Int))⟩ 83 (0,0))::(x10,O5 a l c r.2)::(x15,nX x11.1 (m:Int) y.W.pt y.W.ts.length y.W.kt y.W.pe (rL y.W.ex).length y.W.ke)::(x11.1,xM y.W.z)::uT x11.1 y.W.ex) (λ _=>bG y.W.z.L) (λ _=>⟨y.W.pt,sU y.W.ts,y.W.kt,33,2⟩::⟨y.W.pe,yR (rL y.W.ex),y.W.ke,86,1⟩::⟨y.W.z.pn,iD y.W.z.L,y.W.z.cn,59,14⟩::⟨y.W.z.pc,aJ y.W.z.cs,y.W.z.cc,52,1⟩::qV y.W.ex) (by decide) (λ _=>by exact rfl) ?_ (λ r f hx=>?_)
       · all_goals (refine aT ?_)
         all_goals (refine xU ?_;refine kV ?_;refine aA ?_)
         all_goals (first|refine aG ?_|(refine aC ?_;refine aA ?_)|(refine dG 51 (λ g51=>?_) (λ g51=>?_)<;>(try (exfalso;omega))<;>(first|refine aG ?_|(refine aC ?_;refine aA ?_))))
         all_goals (((first|refine aG ?_|(refine aC ?_;(refine aF (xJ (hc:=λ w1 hw=>fO 3 (hw.tape cQ fin hl) (by decide) (by decide))) (λ x53=>?_);try (refine aB (λ h53=>?_))))));refine xV ?_;refine aN ?_)
         all_goals
          refine bF (λ c55=>?_) (λ c55=>?_)
          · try exact nv c55
            all_goals try (exfalso;omega)
            all_goals (refine dD ?_;refine qS ?_)
            all_goals
             refine fM ((0,nS l x48.pos)) ?_ (hw1:=λ w hw=>hw.back (hF:=aW.all))
             · trivial
          · try exact nv c55
            all_goals try (exfalso;omega)
            all_goals refine aZ ?_
            all_goals
             refine fM (by first|exact((λ _=>(x48.Gz,nS l x48.pos)) x53)|exact(x48.Gz,x48.pos)) ?_ (hw1:=λ w hw=>hw.back (hF:=aW.all))
             · trivial
       dsimp only[gW,List.map,List.cons_append,List.nil_append]
      all_goals refine Be ?_
      all_goals
       refine fH [8,57,58,59,60,61,62,63,64,65,66,67,68,69] (λ s:Nat×Nat=>[(8,.int .i64 ((s.1:Nat):Int))]) (λ s=>s.1<=1048576) (λ s=>(x7,.cells ⟨O0 (({x48 with Gz:=r.1}:Ey).cl q.1 (m:Int))⟩ 83 (0,0))::(x10,O5 a l c s.2)::(x15,nX x11.1 (m:Int) y.W.pt y.W.ts.length y.W.kt y.W.pe (rL y.W.ex).length y.W.ke)::(x11.1,xM y.W.z)::uT x11.1 y.W.ex) (λ _=>bG y.W.z.L) (λ _=>⟨y.W.pt,sU y.W.ts,y.W.kt,33,2⟩::⟨y.W.pe,yR (rL y.W.ex),y.W.ke,86,1⟩::⟨y.W.z.pn,iD y.W.z.L,y.W.z.cn,59,14⟩::⟨y.W.z.pc,aJ y.W.z.cs,y.W.z.cc,52,1⟩::qV y.W.ex) (by decide) (λ _=>by exact rfl) ?_ (λ s f hx=>?_)
       · all_goals (refine aT ?_)
         all_goals (refine xU ?_;refine eF ?_;refine Gh ?_;refine Am ?_)
         all_goals (first|refine aG ?_|(refine aC ?_;refine aA ?_)|(refine dG 63 (λ g63=>?_) (λ g63=>?_)<;>(try (exfalso;omega))<;>(first|refine aG ?_|(refine aC ?_;refine aA ?_))))
         all_goals (((first|refine aG ?_|(refine aC ?_;(refine aF (xJ (hc:=λ w1 hw=>fO 4 (hw.tape cQ fin hl) (by decide) (by decide))) (λ x65=>?_);try (refine aB (λ h65=>?_))))));refine rM ?_;refine aN ?_)
         all_goals
          refine bF (λ c67=>?_) (λ c67=>?_)
          · try exact nv c67
            all_goals try (exfalso;omega)
            all_goals (refine xU ?_;(refine aF (xJ (hc:=λ w1 hw=>fO 16 (hw.tape cQ fin hl) (by decide) (by decide))) (λ x69=>?_);try (refine aB (λ h69=>?_)));refine J1 ?_)
            all_goals
             refine fM ((x69,nS l (nS l r.2))) ?_ (hw1:=λ w hw=>hw.back (hF:=aW.all))
             · show x69<=1048576;omega
          · try exact nv c67
            all_goals try (exfalso;omega)
            all_goals refine aZ ?_
            all_goals
             refine fM (by first|exact((λ _=>(1048576,nS l r.2)) x65)|exact(1048576,r.2)) ?_ (hw1:=λ w hw=>hw.back (hF:=aW.all))
             · exact Nat.le_refl 1048576
       dsimp only[gW,List.map,List.cons_append,List.nil_append]
       have hs1:=hx
      all_goals (refine J2 ?_;refine bJ ?_;refine aA ?_;(refine aF (cT 2 0 (hs:=wH m x15 x11.1 y.W) (os:=wO y.W) (A0:=bG y.W.z.L) (F1:=λ x:Wd×List aQ=>bG x.1.z.L) (hc:=λ w hs=>ft (q:={x48 with Gz:=r.1}) (kind:=q.1) s.1 hs1 (by omega) (by omega) hm hy.ok (by omega) hq (h48.Gz _) (λ f hf=>hf) hs) (hA:=dA.of λ f hf=>.inr (.inr (.inl hf))) (hF1:=λ x hx f hf=>by rw[hx.2,fC] at hf;exact .inr ((List.mem_append.1 hf).elim (λ h=>List.mem_append_right _ h) (λ h=>List.mem_append_left _ h)))) (λ x73=>?_);try (refine aB (λ h73=>?_)));refine aN ?_)
      all_goals
       refine fH [74,75,76,77,78,79,80,81,82,83,84,85,86,87,88,89,90,91,92,93,94,95,96,97,98] (λ u:Nat×Wd=>[]) (λ u=>Rk m (8+134217920*(y.i+1)) (1048576+(y.i+1)) (y.i+1) u.2) (λ u=>(x7,.cells ⟨O0 (({x48 with Gz:=r.1}:Ey).cl q.1 (m:Int))⟩ 83 (0,0))::(x10,O5 a l c u.1)::(x15,nX x11.1 (m:Int) u.2.pt u.2.ts.length u.2.kt u.2.pe (rL u.2.ex).length u.2.ke)::(x11.1,xM u.2.z)::uT x11.1 u.2.ex) (λ u=>bG u.2.z.L) (λ u=>⟨u.2.pt,sU u.2.ts,u.2.kt,33,2⟩::⟨u.2.pe,yR (rL u.2.ex),u.2.ke,86,1⟩::⟨u.2.z.pn,iD u.2.z.L,u.2.z.cn,59,14⟩::⟨u.2.z.pc,aJ u.2.z.cs,u.2.z.cc,52,1⟩::qV u.2.ex) (by decide) (λ _=>by exact rfl) ?_ (λ u f hx=>?_)
       · all_goals (refine aT ?_)
         all_goals (refine xU ?_;refine eF ?_;refine Gh ?_;refine xG ?_;refine aA ?_)
         all_goals (first|refine aG ?_|(refine aC ?_;refine aA ?_)|(refine dG 80 (λ g80=>?_) (λ g80=>?_)<;>(try (exfalso;omega))<;>(first|refine aG ?_|(refine aC ?_;refine aA ?_))))
         all_goals (((first|refine aG ?_|(refine aC ?_;(refine aF (xJ (hc:=λ w1 hw=>fO 3 (hw.tape cQ fin hl) (by decide) (by decide))) (λ x82=>?_);try (refine aB (λ h82=>?_))))));refine rM ?_;refine aN ?_)
         all_goals
          refine bF (λ c84=>?_) (λ c84=>?_)
          · try exact nv c84
            all_goals try (exfalso;omega)
            all_goals (refine dL [(0,[]),(1,[]),(2,[]),(3,[]),(4,[]),(5,[]),(6,[]),(7,[]),(8,[]),(9,[]),(10,[3]),(11,[]),(12,[]),(13,[])] ?_;refine Pd ?_;refine Gg ?_;refine jD ?_;((refine bA (i:=10) (hq:=(xJ (hc:=λ w1 hw=>fO ((rL x73.1.ex).length:Nat) (hw.tape cQ fin hl) (by omega) (by rw[Se];have:=h73.1.el;omega)))) (h:=λ x95=>?_);try (refine aK (λ h95=>?_))));refine bP (i:=11) (hq:=(nw (cs:=yR (rL x73.1.ex)) (k:=x95) rf rf fG bU (.own (.tail .head)) (by omega) (by rw[Fb];omega))) (h:=?_);refine bP (i:=12) (hq:=(nz (cs:=yR (rL x73.1.ex)) (v:=.pointer (some ⟨(rL x73.1.ex).getD x95 0,0,none⟩)) rf bU (.own (.tail .head)) (rb (by omega)))) (h:=?_);((refine bA (i:=13) (hq:=(cT 2 0 (hs:=wH m x15 x11.1 x73.1) (os:=wO x73.1) (A0:=bG x73.1.z.L) (F1:=λ x:Wd×List aQ=>bG x.1.z.L) (hc:=λ w hs=>W1 (i:=x95) (by rw[<- Se];omega) (by omega) (by omega) hm h73.1 (λ f hf=>hf) hs) (hA:=dA.of λ f hf=>.inr (.inr (.inl hf))) (hF1:=λ x hx f hf=>by rw[hx.2.2,fC] at hf;exact .inr ((List.mem_append.1 hf).elim (λ h=>List.mem_append_right _ h) (λ h=>List.mem_append_left _ h))))) (h:=λ x98=>?_);try (refine aK (λ h98=>?_))));refine eO ?_)
            all_goals
             refine fM ((nS l (nS l s.2),x98.1)) ?_ (hw1:=λ w hw=>hw.back (hF:=aW.all))
             · exact h98.1.mono (by omega) (by omega) (Nat.le_refl _)
          · try exact nv c84
            all_goals try (exfalso;omega)
            all_goals refine aZ ?_
            all_goals
             refine fM (by first|exact((λ _=>(nS l s.2,x73.1)) x82)|exact(s.2,x73.1)) ?_ (hw1:=λ w hw=>hw.back (hF:=aW.all))
             · exact h73.1.mono (by omega) (by omega) (Nat.le_refl _)
       dsimp only[gW,List.map,List.cons_append,List.nil_append]
      all_goals (refine eV ?_;refine uH ?_)
      all_goals
       refine gY (⟨y.i+1,u.1,u.2⟩) ?_ (hw1:=λ w hw=>hw.back (hF:=aW.all))
       · exact⟨by show y.i+1<=18;omega,hx⟩
    · try exact nv c30
      all_goals try (exfalso;omega)
      all_goals (refine bQ rfl ?_;refine J2 ?_;refine J1 ?_)
      all_goals
       refine aR Tryz.results7 (λ w hw=>?_)
       exact⟨(x15,x11.1,m,y.W),rfl,⟨hm,hy.ok.mono (by have:=hy.hi;omega) (by have:=hy.hi;omega) hy.hi⟩,hw.aV (hH:=List.Sublist.cons _ (List.Sublist.refl _)) (hF:=by exact aW.all) (hO:=List.Sublist.refl _)⟩
end Go.Proofs.YtpobgmdalcpomaaGreat
