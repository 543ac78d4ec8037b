/- Merged. -/
import Derived.Test.YthblobahelfefaaGreatDoorGDcd
import Derived.Test.YthblobahelfefaaGreatDoorGMcc
import Derived.Test.YthblobahelfefaaGreatDoorGSc4
set_option linter.unusedSimpArgs false
set_option linter.unusedVariables false
namespace Go.Proofs.YthblobahelfefaaGreatDoor
open Go.Proofs.Tryz
open Go Go.RowKit Go.Ct
section
abbrev N0:List Nv:=[Ec.c,Ec.c,mM cQ 0,mM (dC 1) 1]
theorem aCw:∀k:Fin 4,∃c:Fin 3,1<=((c.val:Nat):Int)/\(aB N0 ((k.val+1:Nat):Int)).main=(if(aB N0 ((k.val+1:Nat):Int)).kind=2 then((c.val:Nat):Int) else 0)/\(aB N0 ((k.val+1:Nat):Int)).prev=(if(aB N0 ((k.val+1:Nat):Int)).kind=3∨(aB N0 ((k.val+1:Nat):Int)).kind=5∨(aB N0 ((k.val+1:Nat):Int)).kind=6 then((c.val:Nat):Int) else 0)/\(aB N0 ((k.val+1:Nat):Int)).status=(if(aB N0 ((k.val+1:Nat):Int)).kind=8 then((c.val:Nat):Int) else 0):=by decide
theorem aFR:∀k l:Fin 4,k.val<l.val->zV (aB N0 ((l.val+1:Nat):Int))≠0->zV (aB N0 ((k.val+1:Nat):Int))<zV (aB N0 ((l.val+1:Nat):Int)):=by decide
section
variable{C:KP}{m N k:Nat}{Z:AM}
abbrev s0K(π:Pv):Mm:=⟨N0,[0,3,4],1,π⟩
theorem aB7(π:Pv):J C (s0K π) ⟨[],0,false,0⟩:=by
 have hall:∀r:Int,Rg (s0K π) r->∃k:Fin 4,r=((k.val+1:Nat):Int):=λ r h=>by have h1:=h.a;have h2:r<=4:=h.b;exact⟨⟨(r-1).toNat,by omega⟩,by show r=(((r-1).toNat+1:Nat):Int);omega⟩
 have hc:Ct C (s0K π) 3 (cont []):=I7 (c:=0) ⟨by decide,show(3:Int)<=4 by decide⟩ rfl;refine⟨⟨λ r h=>?_,λ r t hr ht hlt hne=>?_,by show 3<=3;decide⟩,by show 4<=4;decide,rfl,rfl,rfl,.a0 rfl rfl rfl,⟨3,hc,rfl,.inl rfl⟩,λ e=>absurd rfl e,⟨λ _=>List.not_mem_nil,λ _=>rfl⟩,List.nodup_nil,λ e=>absurd e List.not_mem_nil,by show(1:Int)<=1;decide⟩
 ·obtain⟨q,rfl⟩:=hall r h;obtain⟨c,h1,h2,h3,h4⟩:=aCw q;exact⟨((c.val:Nat):Int),h1,by have:=c.isLt;show((c.val:Nat):Int)<=((3:Nat):Int);omega,by have:=c.isLt;omega,h2,h3,h4⟩
 ·obtain⟨q,rfl⟩:=hall r hr;obtain⟨q2,rfl⟩:=hall t ht;exact aFR q q2 (by omega) hne
theorem Xk(π:Pv)(hk:k<2):Nu C k (s0K π) ⟨[],0,false,0⟩:=by
 refine⟨List.not_mem_nil,λ r hr c hc=>?_⟩;rcases hr with rfl|⟨_,e⟩;·have h2:Ct C (s0K π) 3 (cont []):=I7 (c:=0) ⟨by decide,show(3:Int)<=4 by decide⟩ rfl;have h3:cN (s0K π) 4=3:=rfl;rw[h3] at hc;exact(hc.eq h2 hk).trans rfl
 ·exact absurd rfl e
theorem Xx(ho:HOk C m)(π:Pv):GK C m (yT [fN C 0,fN C 1,fN C 2] π) 40620:=by
 have hs:∀k,SI C k 0 (s0K π) ⟨[],0,false,0⟩:=λ k=>⟨λ k0 _=>(by subst k0;exact Xk π (by decide)),λ _ e=>(by cases e),λ _ _=>⟨rfl,rfl⟩,λ k1 _=>by subst k1;exact Xk π (by decide)⟩;refine⟨ho,⟨⟨[],0,false,0⟩,λ k=>⟨fN C k,0,none⟩,λ k=>zd k (pL k-0) 0,[],aB7 π,rfl,by decide,by decide,⟨rfl,λ z e h=>(by cases h),λ y z a b _ h _=>(by cases h)⟩,λ z a h=>(by cases h),λ k hk=>⟨TS.idle 0 (Nat.zero_le _) (hs k) rfl,λ i hi=>absurd hi (Nat.not_lt_zero i)⟩⟩,?_,?_,?_⟩
 ·show 4+64*40620<=10000000;decide
 ·show 3+64*40620<=10000000;decide
 ·show(1:Int)+64*((40620:Nat):Int)<=10000000;decide
theorem Vw:∀(l:List Nat) {Z:AM} {N:Nat},GK C m Z N->(∀k∈l,k<3)->(∃N',N'<=N/\GK C m (oD m l Z) N')/\∀i (h:i<l.length),Tf m l[i] (oD m (l.take i) Z)/\(oD m (l.take i) Z).s.gM
 | [],Z,N,w,_=>⟨⟨N,Nat.le_refl _,w⟩,λ i h=>absurd h (Nat.not_lt_zero i)⟩
 | k::l,Z,N,w,hl=>by
  obtain⟨h1,h2,N',h3,h4,_⟩:=w.pick (hl k (by simp));obtain⟨⟨N2,g1,g2⟩,g3⟩:=Vw l h4 λ x hx=>hl x (List.mem_cons_of_mem _ hx);refine⟨⟨N2,by omega,g2⟩,λ i h=>?_⟩;cases i with
  | zero=>exact⟨h1,h2⟩
  | succ i=>exact g3 i (by simpa using h)
end
end
section
section
variable{w:World}{m:Nat}{ls:List eE}{pk:List Nat}{p p2:Option Addr}{c c2:Nat}
structure aFe(m:Nat)(ls:List eE)(pk:List Nat)(x:NW×MV)(π:Pv):Prop where
 mi:MI x.1.b pk.length (oD m pk (yT (ls.map eE.l) π)) x.2
set_option maxRecDepth 100000 in
set_option maxHeartbeats 1000000 in
theorem aFn(hok:∀π,∀i (h:i<pk.length),Tf m pk[i] (oD m (pk.take i) (yT (ls.map eE.l) π))/\(oD m (pk.take i) (yT (ls.map eE.l) π)).s.gM)(hm0:m<18446744073709551616)(hs8:ls.length<=8)(hs16:∀s∈ls,s.l.length<=16/\∀o∈s.l,H7 o)(hn:pk.length<=1000)(hpk:∀k∈pk,k<ls.length)(hcl:Go.Ct.Cl w p (jX ls))(hcp:Go.Ct.Cl w p2 (aN (oF pk)))(hco:∀s∈ls,Go.Ct.Cl w s.p (iG s.l)) :
  Calls prog 9 #[.agg ⟨[.int .u64 (m:Int),.slice p ls.length c,.slice p2 pk.length c2]⟩] w λ e w'=>∃x:NW×MV,e=.returned (.tuple #[pt x.1.bm,.bool true])/\(∃π,aFe m ls pk x π)/\SF w [] (NW.L m x.1 x.2) [] x.2.B (Et x.2) w':=by
 refine enter func9 ntmps9 rfl rfl (SF.begin (A:=(p,jX ls)::(p2,aN (oF pk))::ls.map λ s=>(s.p,iG s.l)) (λ f hf=>by
rcases List.mem_cons.1 hf with rfl|hf
·exact hcl
rcases List.mem_cons.1 hf with rfl|hf
·exact hcp
·obtain⟨s,hs,rfl⟩:=List.mem_map.1 hf
 exact hco s hs)) ?_
 simp only[bY]
 all_goals (refine J0 ?_;refine bC (λ x1=>?_);refine J8 ?_;refine tB ?_;(refine aK (aQ.conv (fv (V:=λ x:NW=>.tuple #[pt x.bm,.int .i64 0]) (φ:=aDT m ls pk) (Hc:=λ x=>NW.L m x x.V) (Fc:=λ x=>x.V.B) (Oc:=λ x=>Et x.V) (hc:=λ w1 hw=>V2 hs8 hs16 (by omega) hpk (hw.cl (.old .head)) (hw.cl (.old (.tail .head))) (λ s hs=>hw.cl (.old (.tail (.tail (lQ.dS (List.mem_map.2 ⟨s,hs,rfl⟩)))))))) (λ x w h=>And.intro h.1 (show SF _ _ ((x1,.cells ⟨[.int .u64 (m:Int),.slice p ls.length c,.slice p2 pk.length c2]⟩ 31 (0,0))::NW.L m x x.V) ((p,jX ls)::(p2,aN (oF pk))::ls.map λ s=>(s.p,iG s.l)) x.V.B (Et x.V) _ from ji h.2))) (λ x8=>?_);try (refine eF (λ h8=>?_)));refine Ot ?_;refine J8 ?_;refine jF ?_;refine jI ?_;refine aD ?_)
 all_goals ((refine Ka4 ?_))
 all_goals (refine Ja ?_;refine aC ?_)
 all_goals
 refine aX (λ c16=>?_) (λ c16=>?_)
 ·all_goals try (first|contradiction|(exfalso;omega))
 ·all_goals try (first|contradiction|(exfalso;omega))
  all_goals (refine Kc6 ?_;refine aJ (cT 1 0 (hs:=NW.L m x8 x8.V) (os:=Et x8.V) (A0:=cH x8.V.a.L++x8.V.B) (V:=λ x:MV×Fr=>.tuple #[]) (F1:=λ x:MV×Fr=>x.1.B) (hc:=λ w1 hw=>W9 (m:=m) (n:=ls.length) (l:=pk) h8.mi (by simp[yT]) hpk (hok x8.V.a.pv) h8.pkm h8.pl (by omega) hm0 (λ f hf=>List.mem_append_right _ hf) hw) (hA:=Y7 h8.mi (λ f hf=>hf)) (hF1:=λ x hx f hf=>.inr (by rw[hx.2] at hf;exact hf))) (λ x18 h18=>?_);refine aC ?_;refine J2 ?_;refine J8 ?_)
  all_goals
   refine bJ results9 (λ w hw=>?_);exact⟨(x8,x18.1),rfl,⟨x8.V.a.pv,⟨h18.1.up2 (by omega)⟩⟩,hw.ret (by repeat (first|exact List.Sublist.refl _|apply List.Sublist.cons)) (by exact aT.all) (List.Sublist.refl _)⟩
end
end
section
def KC(key other:ByteArray)(m:Nat):KP:=⟨λ u=>if u=0 then key else other,λ u=>tP (if u=0 then key else other) m,λ u=>(u:Int)+1⟩
abbrev q7(C:KP)(b0 b1 b2:Nat):List eE:=[⟨some ⟨b0,0,none⟩,2,fN C 0⟩,⟨some ⟨b1,0,none⟩,5,fN C 1⟩,⟨some ⟨b2,0,none⟩,2,fN C 2⟩]
section
variable{key other:ByteArray}{m b0 b1 b2:Nat}{C:KP}
theorem hoC(h1:key.size<=64)(h2:other.size<=64)(hne:key≠other):HOk (KC key other m) m:=by refine⟨⟨hne,λ u hu=>?_⟩,λ u=>rfl⟩;show(if u=0 then key else other).size<=64;split<;>assumption
theorem sm:X8 (KC key other m) (q7 (KC key other m) b0 b1 b2):=by
 refine⟨rfl,λ k hk=>?_,rfl,rfl⟩;rcases(by omega:k=0∨k=1∨k=2) with rfl|rfl|rfl
 ·exact⟨_,rfl,rfl⟩
 ·exact⟨_,rfl,rfl⟩
 ·exact⟨_,rfl,rfl⟩
theorem aCB(h:HOk C m){k i:Nat}:H7 (mL C k i):=by
 unfold mL;split
 ·rename_i e;have hk:k<2:=by rcases D6 e with⟨rfl,_⟩|⟨rfl,_⟩<;>decide
  exact⟨by simp,rfl,h.k2.sz k hk⟩
 ·exact⟨by simp,rfl,by show(0:Nat)<=64;decide⟩
 ·rename_i u e;exact⟨by simp,rfl,h.k2.sz u (Rv e)⟩
theorem aDE(h:HOk C m):∀s∈q7 C b0 b1 b2,s.l.length<=16/\∀o∈s.l,H7 o:=λ s hs=>by
 have hk:∀k,k<3->(fN C k).length<=16/\∀o∈fN C k,H7 o:=λ k hk=>by refine⟨by rw[nE];rcases(by omega:k=0∨k=1∨k=2) with rfl|rfl|rfl<;>decide,λ o ho=>?_⟩;obtain⟨i,_,rfl⟩:=List.mem_map.1 ho;exact aCB h
 simp only[List.mem_cons,List.not_mem_nil,or_false] at hs;rcases hs with rfl|rfl|rfl;·exact hk 0 (by decide)
 ·exact hk 1 (by decide)
 ·exact hk 2 (by decide)
theorem l6{w:World}(h0:Go.Ct.Cl w (some ⟨b0,0,none⟩) (iG (fN C 0)))(h1:Go.Ct.Cl w (some ⟨b1,0,none⟩) (iG (fN C 1)))(h2:Go.Ct.Cl w (some ⟨b2,0,none⟩) (iG (fN C 2))):∀s∈q7 C b0 b1 b2,Go.Ct.Cl w s.p (iG s.l):=λ s hs=>by
 simp only[List.mem_cons,List.not_mem_nil,or_false] at hs;rcases hs with rfl|rfl|rfl;·exact h0
 ·exact h1
 ·exact h2
theorem kh(l:List Nat)(k:Nat):oF (l++[k])=oF l++[(k:Int)]:=by simp[oF]
set_option maxRecDepth 100000 in
set_option maxHeartbeats 2000000 in
theorem rc{w:World}{tl:List Int}{a:Option Addr}{ca:Nat}(hm0:m<18446744073709551616)(hca:Go.Ct.Cl w a (aN tl))(htl:tl.length<=17592186043904) :
    Calls prog 3 #[.slice a tl.length ca,.int .u64 (m:Int),.string key,.string other] w λ e w'=>e=.returned (.bool true)/\Ct.St w [] [] w':=by
     refine enter func3 ntmps3 rfl rfl (SF.s1 hca) ?_;simp only[bY];refine Ka5 ?_;refine lW ?_;refine Bs ?_;refine aD ?_;(refine kT 20 (λ g20=>?_) (λ g20=>?_)<;>refine Ka0 ?_);all_goals ((first|refine bG ?_|(refine aG ?_;refine lW ?_));refine vd ?_;refine aD ?_)
     all_goals (first|refine bG ?_|(refine kT 25 (λ g25=>?_) (λ g25=>?_)<;>refine Ka0 ?_))
     all_goals (refine Ka0 ?_;(first|refine bG ?_|(refine aG ?_;refine m9 ?_));refine Kc2 ?_)
     all_goals
      refine aX (λ c29=>?_) (λ c29=>?_)
      ·all_goals try (first|contradiction|(exfalso;omega))
       all_goals (refine J0 ?_;refine aK (cV (hc:=λ w1 hw=>Li w1)) (λ x30=>?_);refine J1 ?_)
       all_goals refine aP results3 (λ w hw=>?_);exact⟨rfl,hw.done⟩
      ·try exact nv c29
       all_goals
        have hk1:key.size<=64:=by omega
        have hk2:other.size<=64:=by omega
        have hne:key≠other:=by assumption
        have hO:=hoC (m:=m) hk1 hk2 hne
       all_goals (refine Ix ?_;refine aK (cV (hc:=λ w1 hw=>Bp key 1 w1)) (λ x33=>?_);refine bX ?_;refine aK E0h (λ x35=>?_);refine aD ?_;refine bX ?_;refine aD ?_;refine aK (cV (hc:=λ w1 hw=>Bp other 2 w1)) (λ x39=>?_);refine aD ?_;refine bX ?_;refine aD ?_;refine bX ?_;refine aD ?_;refine bX ?_;refine aK E0h (λ x46=>?_);refine aD ?_;refine bX ?_;refine aD ?_;refine bX ?_;refine aK E0h (λ x51=>?_);refine aK E0u (λ x52=>?_);refine bX ?_;refine aI (λ x9=>?_);refine J5 ?_;refine J2 ?_;refine aJ (fv (V:=λ b:Nat=>pt b) (Hc:=λ b=>[(b,tpO a tl ca 0)]) (Fc:=λ _=>[]) (Oc:=λ _=>[]) (hc:=λ w1 hw=>aEh)) (λ x55 h55=>?_);refine nN ?_;refine J69 ?_)
       all_goals
        refine mE [11,56,57,58,59,60,61,62,63,64,65,66,67,68,69,70] (λ y:Nat×Nat×List Nat×Option Addr×Nat=>[(11,.int .i64 ((y.1:Nat):Int))]) (λ y=>y.1<=150/\y.2.2.1.length=y.1/\∀k∈y.2.2.1,k<3) (λ y=>[(x55,tpO a tl ca y.2.1),(x9,.cells ⟨[.int .u64 (m:Int),.slice (some ⟨x52,0,none⟩) 3 3,.slice y.2.2.2.1 y.2.2.1.length y.2.2.2.2]⟩ 31 (0,0))]) (λ y=>[(some ⟨x52,0,none⟩,jX (q7 (KC key other m) x35 x46 x51)),(some ⟨x51,0,none⟩,iG (fN (KC key other m) 2)),(some ⟨x46,0,none⟩,iG (fN (KC key other m) 1)),(some ⟨x35,0,none⟩,iG (fN (KC key other m) 0))]) (λ y=>[⟨y.2.2.2.1,aN (oF y.2.2.1),y.2.2.2.2,3,1⟩]) (λ y=>150-y.1) ((0,0,[],none,0)) (⟨Nat.zero_le _,rfl,λ k hk=>nomatch hk⟩) (λ y f hx=>?_) (hw0:=λ w hw=>(hw.gN 3 1).back (hF:=aT.bA λ f hf=>by exact hf));refine K0a ?_;obtain⟨i,tk,pk,pp,pc⟩:=y;replace hx:i<=150/\pk.length=i/\∀k∈pk,k<3:=hx;obtain⟨hi,hpl,hpk⟩:=hx;dsimp only;refine jF ?_;refine Q9 ?_;(refine kT 58 (λ g58=>?_) (λ g58=>?_)<;>refine Ka0 ?_);all_goals ((first|refine bG ?_|(refine aG ?_;refine aJ (cF1 (hc:=λ w1 hw=>aAX (hw.tape bU fin htl))) (λ x60 h60=>?_)));refine Kc2 ?_)
        all_goals
         refine aX (λ c61=>?_) (λ c61=>?_)
         ·try exact nv c61
          all_goals (refine tG ?_;refine eQ [(0,[]),(1,[]),(2,[]),(3,[1]),(4,[1]),(5,[]),(6,[]),(7,[])] ?_;refine iX ?_;refine aR ?_;refine bS (i:=3) (hq:=(cF1 (hc:=λ w1 hw=>aDJ 3 (hw.tape bU fin htl) (by decide) (by decide)))) (h:=λ x67 h67=>?_);refine cB (i:=4) (hq:=(by exact mH λ _=>bO Ta zN rf rf rf rf E0b)) (h:=λ x68=>?_);((refine cB (i:=5) (hq:=(aQ.eG (Vh (l:=oF pk) (l2:=[((x67:Nat):Int)]) (m:=pk.length) (k:=1) rf rf .head (by rw[P4]) (.new .head) rfl Ta fU (by omega)) nM)) (h:=λ x69=>?_);try (refine iV (λ h69=>?_))));refine cE ?_;refine Kg ?_;refine eX ?_;refine J70 ?_)
          all_goals refine nS ((i+1,tiN tl tk,pk++[x67],x69.1,x69.2)) ?_ (hw1:=λ w hw=>by rw[show oF pk++[((x67:Nat):Int)]=oF (pk++[x67]) by rw[kh],show pk.length+1=(pk++[x67]).length by simp] at hw;exact hw.back (hF:=aT.bA λ f hf=>by simp at hf;simp[hf])) (hμ:=by show 150-(i+1)<_;omega);·exact⟨by show i+1<=150;omega,by show(pk++[x67]).length=i+1;rw[List.length_append,hpl];rfl,λ k hk=>by rcases List.mem_append.1 hk with hk|hk;exact hpk k hk;rw[List.mem_singleton.1 hk];omega⟩
         ·all_goals try (first|contradiction|(exfalso;omega))
          all_goals (refine bQ rfl ?_;refine aU ?_)
          all_goals refine rY (λ w hw=>(hw.freeze .head).sub (List.sublist_cons_self _ _) aT.all (List.Sublist.refl _)) ?_
          all_goals (refine cD ?_;refine bW ?_;(refine aK (aQ.conv (fv (V:=λ x:NW×MV=>.tuple #[pt x.1.bm,.bool true]) (φ:=λ x=>∃π,aFe m (q7 (KC key other m) x35 x46 x51) pk x π) (Hc:=λ x=>NW.L m x.1 x.2) (Fc:=λ x=>x.2.B) (Oc:=λ x=>Et x.2) (hc:=λ w1 hw=>aFn (ls:=q7 (KC key other m) x35 x46 x51) (pk:=pk) (p:=some ⟨x52,0,none⟩) (c:=3) (p2:=pp) (c2:=pc) (λ π=>(Vw pk (Xx hO π) hpk).2) hm0 (by show 3<=8;decide) (aDE hO) (by omega) hpk (hw.cl (.new (.tail .head))) (hw.cl (.new .head)) (l6 (hw.cl (.new (.tail (.tail (.tail (.tail .head)))))) (hw.cl (.new (.tail (.tail (.tail .head))))) (hw.cl (.new (.tail (.tail .head))))))) (λ x w h=>And.intro h.1 (show SF _ _ ((x9,.cells ⟨[.int .u64 (m:Int),.slice (some ⟨x52,0,none⟩) 3 3,.slice pp pk.length pc]⟩ 31 (0,0))::NW.L m x.1 x.2) [(a,aN tl)] (x.2.B++[(pp,aN (oF pk)),(some ⟨x52,0,none⟩,jX (q7 (KC key other m) x35 x46 x51)),(some ⟨x51,0,none⟩,iG (fN (KC key other m) 2)),(some ⟨x46,0,none⟩,iG (fN (KC key other m) 1)),(some ⟨x35,0,none⟩,iG (fN (KC key other m) 0))]) (Et x.2) _ from Wl h.2))) (λ x73=>?_);try (refine eF (λ h73=>?_))))
          all_goals
           obtain⟨π,hrq⟩:=h73;have hmi:=hrq.mi;obtain⟨⟨N,hN,gk⟩,_⟩:=Vw pk (Xx hO π) hpk;obtain⟨K,hK1,hK2,hK3⟩:=gk.drain;have hKi:∀i,i<K->(D7 m 3 0 i (oD m pk (yT [fN (KC key other m) 0,fN (KC key other m) 1,fN (KC key other m) 2] π))).iE=false/\Tf m ((0+i)%3) (D7 m 3 0 i (oD m pk (yT [fN (KC key other m) 0,fN (KC key other m) 1,fN (KC key other m) 2] π)))/\(D7 m 3 0 i (oD m pk (yT [fN (KC key other m) 0,fN (KC key other m) 1,fN (KC key other m) 2] π))).s.gM:=λ i hi=>by obtain⟨N',h1,h2,h3⟩:=hK3 i hi;obtain⟨g1,g2,_⟩:=h3.pick (k:=(0+i)%3) (Nat.mod_lt _ (by decide));exact⟨by rw[h3.iE];exact decide_eq_false h1,g1,g2⟩
           have hKd:(D7 m 3 0 K (oD m pk (yT [fN (KC key other m) 0,fN (KC key other m) 1,fN (KC key other m) 2] π))).iE=true:=by rw[hK2.iE];rfl
           obtain⟨ts,us,hE⟩:=hK2.end
          all_goals (refine Ot ?_;refine J8 ?_;refine jF ?_;refine fl ?_)
          all_goals ((refine Ka4 ?_))
          all_goals ((refine aG ?_;refine aJ (cT 1 0 (hs:=NW.L m x73.1 x73.2) (os:=Et x73.2) (A0:=cH x73.2.a.L++x73.2.B) (V:=λ x:MV×Fr=>.bool true) (F1:=λ x:MV×Fr=>x.1.B++[(pp,aN (oF pk)),(some ⟨x52,0,none⟩,jX (q7 (KC key other m) x35 x46 x51)),(some ⟨x51,0,none⟩,iG (fN (KC key other m) 2)),(some ⟨x46,0,none⟩,iG (fN (KC key other m) 1)),(some ⟨x35,0,none⟩,iG (fN (KC key other m) 0))]) (hc:=λ w1 hw=>Kp (m:=m) (n:=3) (K:=K) (most:=1099511627776) hmi gk.len (by decide) hKi hKd (by omega) (by decide) (by omega) hm0 (λ f hf=>List.mem_append_right _ hf) hw) (hA:=Y7 hmi (λ f hf=>List.mem_append_left _ hf)) (hF1:=E0v)) (λ x80 h80=>?_)))
          all_goals have hhi:x80.1.hi=(D7 m 3 0 K (oD m pk (yT [fN (KC key other m) 0,fN (KC key other m) 1,fN (KC key other m) 2] π))).hist:=h80.1.hist;rw[<- hhi] at hE;clear hKi hKd hK2 hK3 hmi hrq gk
          all_goals (refine y7 ?_;refine aC ?_)
          all_goals
           refine aX (λ c82=>?_) (λ c82=>?_);·exact nv c82
           ·all_goals try (first|contradiction|(exfalso;omega))
            all_goals (refine mD ?_;refine eQ [(0,[]),(1,[]),(2,[]),(3,[]),(4,[2]),(5,[]),(6,[]),(7,[]),(8,[]),(9,[]),(10,[]),(11,[]),(12,[])] ?_;refine aR ?_;refine iX ?_;refine aR ?_;refine bS (i:=4) (hq:=(cM (V:=λ x:Option Addr×Nat=>.slice x.1 x80.1.hi.length x.2) (hs:=[(x73.1.bm,Ju x73.1.b x73.1.bT x73.1.pk x80.1)]) (os:=vj x80.1) (A0:=[]) (hs':=λ _=>[(x73.1.bm,Ju x73.1.b x73.1.bT x73.1.pk x80.1)]) (os':=λ _=>vj x80.1) (Fc:=λ x=>[(x.1,Uo x80.1.hi)]) (hc:=λ w1 hw=>Qm (by rw[hE.len.1];decide) hw))) (h:=λ x88 h88=>?_);refine bS (i:=5) (hq:=(c0 (V:=λ x:Option Addr×Nat=>.tuple #[.slice x.1 (gA (q7 (KC key other m) x35 x46 x51) (q7 (KC key other m) x35 x46 x51).length).length x.2,.bool true,.int .i64 0]) (hc:=λ w1 hw=>S8 (m:=m) (ls:=q7 (KC key other m) x35 x46 x51) (l:=x80.1.hi) (pk:=Y6 (KC key other m)) (p:=some ⟨x52,0,none⟩) (c:=3) (pl:=x88.1) (cl:=x88.2) (hE.dp sm hO.k2.sz) (λ v _=>by unfold Y6;split;exact hk1;exact hk2) hm0 (by rw[sm.aD1];decide) (by rw[hE.len.2];decide) (hE.aFq sm hne) ⟨hw.cl (.new (lQ.dS (by simp))),hw.cl (.new .head),l6 (hw.cl (.new (lQ.dS (by simp)))) (hw.cl (.new (lQ.dS (by simp)))) (hw.cl (.new (lQ.dS (by simp))))⟩))) (h:=λ x89 h89=>?_);refine aR ?_;refine cP ?_;refine cP ?_;refine cP ?_;refine oK (h:=λ _=>?_);refine mg ?_;refine J0 ?_;refine aK (cV (hc:=λ w1 hw=>Li w1)) (λ x93=>?_);refine aD ?_)
            all_goals ((refine Ka4 ?_))
            all_goals (refine dG ?_;refine aD ?_)
            all_goals ((refine Ka4 ?_))
            all_goals (refine Ja ?_;refine J1 ?_)
            all_goals refine aP results3 (λ w hw=>?_);exact⟨rfl,hw.done⟩
end
end
end Go.Proofs.YthblobahelfefaaGreatDoor
