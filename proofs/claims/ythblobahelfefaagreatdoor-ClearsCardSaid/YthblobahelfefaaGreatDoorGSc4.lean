/- Merged. -/
import Derived.Test.YthblobahelfefaaGreatDoorGMcc
import Derived.Test.YthblobahelfefaaGreatDoorFz
import Derived.Test.YthblobahelfefaaGreatDoorGAr5
import Derived.Test.YthblobahelfefaaGreatDoorGMc6
set_option linter.unusedSimpArgs false
set_option linter.unusedVariables false
namespace Go.Proofs.YthblobahelfefaaGreatDoor
open Go Go.RowKit Go.Ct
section
def oF(l:List Nat):List Int:=l.map λ k=>((k:Nat):Int)
theorem P4(l:List Nat):(oF l).length=l.length:=by simp[oF]
theorem wa{l:List Nat}{i k:Nat}(h:l[i]?=some k):(oF l).getD i 0=((k:Nat):Int):=by simp[oF,List.getD,h]
theorem qp{q:Nat}(h:q<8):IntKind.i8.wrap ((q:Nat):Int)=((q:Nat):Int):=by
 have:q=0∨q=1∨q=2∨q=3∨q=4∨q=5∨q=6∨q=7:=by omega
 rcases this with rfl|rfl|rfl|rfl|rfl|rfl|rfl|rfl<;>decide
structure NTh(ls:List eE)(i:Nat)(l:List hJ)(F:Fr):Prop where
 len:l.length=i
 abs:l.map hJ.abs=(ls.take i).map λ s=>⟨s.l,0,none⟩
 pr:∀t∈l,t.pr=none/\(t.op,iG t.ops)∈F
theorem NTh.next{ls:List eE}{i:Nat}{l:List hJ}{F:Fr}(h:NTh ls i l F){s:eE}(hs:ls[i]?=some s)(p:Option Addr)(c:Nat):NTh ls (i+1) (l++[⟨p,c,s.l,0,none⟩]) ((p,iG s.l)::F):=by
 refine⟨by simp[h.len],?_,λ t ht=>?_⟩;·rw[List.map_append,h.abs,List.take_add_one,hs,List.map_append];rfl
 ·rcases List.mem_append.1 ht with ht|ht;·exact⟨(h.pr t ht).1,List.mem_cons_of_mem _ (h.pr t ht).2⟩
  ·rw[List.mem_singleton.1 ht];exact⟨rfl,.head _⟩
structure aDT(m:Nat)(ls:List eE)(pk:List Nat)(x:NW):Prop where
 mi:MI x.b 0 (yT (ls.map eE.l) x.V.a.pv) x.V
 pkm:(x.pk.1,Yt pk)∈x.V.B
 pl:x.pk.2.1=pk.length
abbrev NW.H(m:Nat)(x:NW):List (Nat×Obj):=mcH m x.b x.bm x.bT x.bo x.bt x.bi x.pk x.V
set_option maxRecDepth 100000 in
set_option maxHeartbeats 1000000 in
theorem V2{w:World}{m:Nat}{ls:List eE}{pk:List Nat}{p p2:Option Addr}{c c2:Nat}(hs8:ls.length<=8)(hs16:∀s∈ls,s.l.length<=16/\∀o∈s.l,H7 o)(hn:pk.length<=67108864)(hpk:∀k∈pk,k<ls.length)(hcl:Go.Ct.Cl w p (jX ls))(hcp:Go.Ct.Cl w p2 (aN (oF pk)))(hco:∀s∈ls,Go.Ct.Cl w s.p (iG s.l)) :
  Calls Tryz.prog 13 #[.agg ⟨[.int .u64 (m:Int),.slice p ls.length c,.slice p2 pk.length c2]⟩] w λ e w'=>∃x:NW,e=.returned (.tuple #[pt x.bm,.int .i64 0])/\aDT m ls pk x/\SF w [] (NW.H m x) [] x.V.B (Et x.V) w':=by
 refine enter Tryz.func13 Tryz.ntmps13 rfl rfl (SF.begin (A:=(p,jX ls)::(p2,aN (oF pk))::ls.map λ s=>(s.p,iG s.l)) (λ f hf=>by
rcases List.mem_cons.1 hf with rfl|hf
·exact hcl
rcases List.mem_cons.1 hf with rfl|hf
·exact hcp
·obtain⟨s,hs,rfl⟩:=List.mem_map.1 hf
 exact hco s hs)) ?_
 simp only[bY]
 all_goals (refine J0 ?_;refine bC (λ x1=>?_);refine J8 ?_;refine aU ?_;refine tB ?_;refine aK (cV (hc:=λ w1 hw=>di hs8 (λ s hs=>(hs16 s hs).1) hn (hw.cl (.old .head)))) (λ x12=>?_);refine Kb7 ?_;refine Kc0 ?_)
 all_goals
 refine aX (λ c14=>?_) (λ c14=>?_)
 ·exact nv c14
 ·all_goals try (first|contradiction|(exfalso;omega))
  all_goals (refine Kb5 ?_;refine aJ (fv (Hc:=λ q=>[(q,aO [] [] 0 0 none 0 none 0)]) (Fc:=λ _=>[]) (Oc:=λ _=>mW [] [] none 0 none 0) (hc:=λ w1 hw=>aDB w1)) (λ x16 h16=>?_);refine P2 ?_;refine aA (re rf (a9 _)) rfl ?_;refine J3 ?_;refine aJ (Pq (V:=λ x:(Nat×Nat×Nat×Nat)×AX×AX×Option Addr×Nat=>pt x.1.1) (hs:=[(x16,aO [] [] 0 0 none 0 none 0)]) (os:=mW [] [] none 0 none 0) (hs':=λ x=>[(x16,aO (L2 x.2.1 x.2.2.1) [0,3,4] 1 0 x.2.2.1.pn x.2.2.1.cn x.2.2.2.1 x.2.2.2.2)]) (Hc:=λ x=>[(x.1.1,qX x16 m x.1.2.1 x.1.2.2.1 x.1.2.2.2),(x.1.2.1,bV [] 0),(x.1.2.2.1,bV (Jb t3) 1)]) (os':=λ x=>mW (L2 x.2.1 x.2.2.1) [0,3,4] x.2.2.1.pn x.2.2.1.cn x.2.2.2.1 x.2.2.2.2) (Oc:=λ _=>[]) (Fc:=λ x=>cH (L2 x.2.1 x.2.2.1)) (A0:=[]) (hc:=λ w1 hw=>(aAf (m:=m) hw).mono λ _ _ ⟨x,e,h,hw⟩=>⟨x,e,h,by rw[List.append_nil];exact hw.perm (List.perm_append_comm (l₁:=[(x16,aO (L2 x.2.1 x.2.2.1) [0,3,4] 1 0 x.2.2.1.pn x.2.2.1.cn x.2.2.2.1 x.2.2.2.2)]) (l₂:=[(x.1.1,qX x16 m x.1.2.1 x.1.2.2.1 x.1.2.2.2),(x.1.2.1,bV [] 0),(x.1.2.2.1,bV (Jb t3) 1)])) (List.Perm.refl _)⟩)) (λ x22 h22=>?_);refine bX ?_;refine bC (λ x24=>?_);refine nN ?_;refine gP ?_;refine Ka9 ?_)
  all_goals
   refine mE [8,28,29,30,31,32,33,34,35,36,37,38,39,40,41,42,43,44] (λ y:Nat×List hJ×Option Addr×Nat×Fr=>[(28,.int .i64 ((y.1:Nat):Int))]) (λ y=>y.1<=ls.length/\NTh ls y.1 y.2.1 y.2.2.2.2) (λ y=>[(x24,.cells ⟨[pt x16,pt x22.1.1,.slice y.2.2.1 y.2.1.length y.2.2.2.1,.slice none 0 0,.slice none 0 0,.int .i64 0]⟩ 56 (0,0)),(x22.1.1,qX x16 m x22.1.2.1 x22.1.2.2.1 x22.1.2.2.2),(x22.1.2.1,bV [] 0),(x22.1.2.2.1,bV (Jb t3) 1),(x16,aO (L2 x22.2.1 x22.2.2.1) [0,3,4] 1 0 x22.2.2.1.pn x22.2.2.1.cn x22.2.2.2.1 x22.2.2.2.2),(x1,.cells ⟨[.int .u64 (m:Int),.slice p ls.length c,.slice p2 pk.length c2]⟩ 31 (0,0))]) (λ y=>y.2.2.2.2) (λ y=>⟨y.2.2.1,qn y.2.1,y.2.2.2.1,83,3⟩::mW (L2 x22.2.1 x22.2.2.1) [0,3,4] x22.2.2.1.pn x22.2.2.1.cn x22.2.2.2.1 x22.2.2.2.2) (λ y=>ls.length-y.1) ((0,[],none,0,[])) (⟨Nat.zero_le _,rfl,rfl,λ t ht=>nomatch ht⟩) (λ y f hx=>?_) (hw0:=λ w hw=>(hw.gN 83 3).back (hF:=aT.nil));refine K0a ?_;obtain⟨hy1,hy2⟩:=hx
   have hyl:=hy2.len;all_goals (refine Ka7 ?_)
   all_goals
   refine aX (λ c29=>?_) (λ c29=>?_)
   ·all_goals try (first|contradiction|(exfalso;omega))
    all_goals
     have hkl:y.1<ls.length:=by omega
     have hat:=wC hkl;have hoA:(ls[y.1].p,iG ls[y.1].l)∈ls.map λ s=>(s.p,iG s.l):=List.mem_map.2 ⟨_,List.getElem_mem hkl,rfl⟩;have h16k:=(hs16 _ (List.getElem_mem hkl)).1;have hst:ls[y.1]?=some ls[y.1]:=List.getElem?_eq_getElem hkl;generalize ls[y.1]=s at hat hoA h16k hst
    all_goals (refine tG ?_;refine J0 ?_;refine aA (fM (k:=y.1) (cs:=jX ls) rf rf fU iH (.old .head) hkl (by rw[qU];exact hkl)) rfl ?_;refine aA (eY (q:=y.1) (cs:=jX ls) rf iH (.old .head) hat) rfl ?_;refine J1 ?_;refine eQ [(0,[]),(1,[]),(2,[]),(3,[]),(4,[]),(5,[]),(6,[4]),(7,[]),(8,[4]),(9,[]),(10,[]),(11,[]),(12,[])] ?_;refine Th ?_;refine aR ?_;refine bS (i:=6) (hq:=(cF (hc:=λ w1 hw=>T8 (hw.cl (.old (.tail (.tail (lQ.dS hoA))))) (by omega)))) (h:=λ x38 h38=>?_);refine kD ?_;refine cB (i:=8) (hq:=(by exact mH λ _=>bO R8 zN rf rf rf rf (by simp only[fT,dO,List.cons_append,List.nil_append,List.append_nil];exact rfl))) (h:=λ x40=>?_);((refine cB (i:=9) (hq:=(aQ.eG (wP (f:=hJ.cells) (v1:=⟨x38.1,x38.2,s.l,0,none⟩) cL (by decide) rfl rf rf .head rfl (.new .head) R8 rfl fU (by omega)) nM)) (h:=λ x41=>?_);try (refine iV (λ h41=>?_))));refine fy ?_;refine Kb6 ?_)
    all_goals
     refine nS ((y.1+1,y.2.1++[⟨x38.1,x38.2,s.l,0,none⟩],x41.1,x41.2,(x38.1,iG s.l)::y.2.2.2.2)) ?_ (hw1:=λ w hw=>by rw[show y.2.1.length+1=(y.2.1++[(⟨x38.1,x38.2,s.l,0,none⟩:hJ)]).length by simp] at hw;exact hw.back (hF:=aT.bA λ f hf=>by simp at hf ⊢;rcases hf with h|h<;>simp[h]))
     ·exact⟨hkl,hy2.next hst _ _⟩
   ·all_goals try (first|contradiction|(exfalso;omega))
    all_goals (refine bQ rfl ?_;refine J2 ?_;refine J85 ?_;refine aK (vX rf rf gz (by omega) (by omega) (aA5 pk.length)) (λ x49=>?_);refine O9 ?_;refine I9 ?_;refine Ka9 ?_)
    all_goals
     refine mE [9,10,55,56,57,58,59,60,61,62,63,64,65,66,67,68,69,70,71,72,73,74,75,76,77,78,79,80,81,82,83,84,85] (λ z:Nat=>[(55,.int .i64 ((z:Nat):Int))]) (λ z=>z<=pk.length) (λ z=>[(x24,.cells ⟨[pt x16,pt x22.1.1,.slice y.2.2.1 y.2.1.length y.2.2.2.1,.slice (some ⟨x49,0,none⟩) pk.length pk.length,.slice none 0 0,.int .i64 0]⟩ 56 (0,0)),(x22.1.1,qX x16 m x22.1.2.1 x22.1.2.2.1 x22.1.2.2.2),(x22.1.2.1,bV [] 0),(x22.1.2.2.1,bV (Jb t3) 1),(x16,aO (L2 x22.2.1 x22.2.2.1) [0,3,4] 1 0 x22.2.2.1.pn x22.2.2.1.cn x22.2.2.2.1 x22.2.2.2.2),(x1,.cells ⟨[.int .u64 (m:Int),.slice p ls.length c,.slice p2 pk.length c2]⟩ 31 (0,0))]) (λ z=>y.2.2.2.2) (λ z=>⟨some ⟨x49,0,none⟩,Y4 pk z pk.length,pk.length,84,1⟩::⟨y.2.2.1,qn y.2.1,y.2.2.2.1,83,3⟩::mW (L2 x22.2.1 x22.2.2.1) [0,3,4] x22.2.2.1.pn x22.2.2.1.cn x22.2.2.2.1 x22.2.2.2.2) (λ z=>pk.length-z) (0) (Nat.zero_le _) (λ z f hx=>?_) (hw0:=λ w hw=>by rw[km];exact hw.v6);refine K0a ?_;all_goals (refine Ka7 ?_)
     all_goals
     refine aX (λ c56=>?_) (λ c56=>?_)
     ·all_goals try (first|contradiction|(exfalso;omega))
      all_goals
       have hzl:z<pk.length:=by omega
       have hzt:pk[z]?=some pk[z]:=List.getElem?_eq_getElem hzl;have hzk:=hpk _ (List.getElem_mem hzl);generalize pk[z]=q at hzt hzk;have hzn:=wa hzt;have hq8:q<8:=by omega
      all_goals (refine Kb4 ?_;refine aA (Qn (lst:=oF pk) (k:=z) rf rf fU iH (.old (.tail .head)) hzl (by rw[P4];exact hzl)) rfl ?_;refine aA (eY (q:=z) (cs:=aN (oF pk)) (v:=.int .i64 ((q:Nat):Int)) rf iH (.old (.tail .head)) (by rw[<- hzn];simp[aN,oF,List.getD,hzt])) rfl ?_;refine J8 ?_;refine zG ?_;refine aD ?_;refine aA (fM (k:=z) (cs:=Y4 pk z pk.length) rf rf fU iH (.own .head) hzl (by rw[Fa hx rfl];exact hzl)) rfl ?_;refine aM (aQ.iN (uD (q:=z) (cs:=Y4 pk z pk.length) rf rf rfl iH tD (by rw[Fa hx rfl];exact hzl)) nM) (λ _=>?_);refine aC ?_;refine J2 ?_;refine kZ ?_;refine aD ?_)
      all_goals ((refine Ka4 ?_))
      all_goals (((refine Ka4 ?_));((refine aG ?_;refine cA ?_));refine J43 ?_;refine vb ?_;refine aC ?_)
      all_goals
       refine aX (λ c76=>?_) (λ c76=>?_)
       ·all_goals try (first|contradiction|(exfalso;omega))
        all_goals (refine Js ?_;refine cA ?_;refine J3 ?_;refine Jh ?_;refine aA (qW rf (by exact qD (k:=.i64) rfl) (by exact qD (k:=.i8) rfl)) rfl ?_;refine aA (fM (k:=z) (cs:=(Y4 pk z pk.length).set z (.int .i8 (-1))) rf rf fU iH (.own .head) hzl (by rw[List.length_set,Fa hx rfl];exact hzl)) rfl ?_;refine aM (aQ.iN (uD (q:=z) (v:=.int .i8 (IntKind.i8.wrap ((q:Nat):Int))) (cs:=(Y4 pk z pk.length).set z (.int .i8 (-1))) rf rf rfl iH tD (by rw[List.length_set,Fa hx rfl];exact hzl)) nM) (λ _=>?_);refine aC ?_;refine Kb6 ?_)
        all_goals
        refine nS (z+1) ?_ (hw1:=λ w hw=>by rw[show IntKind.i8.wrap ((q:Nat):Int)=((q:Nat):Int) from qp hq8,ig hzl rfl _ q hzt] at hw;exact hw.v6)
        ·exact hzl
       ·all_goals try (first|contradiction|(exfalso;omega))
     ·all_goals try (first|contradiction|(exfalso;omega))
      all_goals (refine bQ rfl ?_;refine J2 ?_;refine J8 ?_)
      all_goals
       refine bJ Tryz.results13 (λ w hw=>?_);have hzl:z=pk.length:=by omega
       have hyl2:y.1=ls.length:=by omega
       subst hzl
       rw[w9] at hw
       obtain⟨n1,n2,n3⟩:=hy2
       rw[hyl2,List.take_length] at n2;have hfl:y.2.1.flatMap (N1 x16)=[]:=List.flatMap_eq_nil_iff.2 λ t ht=>by unfold N1;rw[(n3 t ht).1]
       have hfo:y.2.1.flatMap Pc=[]:=List.flatMap_eq_nil_iff.2 λ t ht=>by unfold Pc;rw[(n3 t ht).1]
       refine⟨⟨x16,x24,x22.1.1,x22.1.2.1,x22.1.2.2.1,x22.1.2.2.2,(some ⟨x49,0,none⟩,pk.length,pk.length),⟨uq 0 x22.2.1 x22.2.2.1 x22.2.2.2.1 x22.2.2.2.2,[],0,y.2.1,y.2.2.1,y.2.2.2.1,[],none,0,0,List.cons (some ⟨x49,0,none⟩,Yt pk) y.2.2.2.2⟩⟩,rfl,⟨⟨s7 _ _ _ _ _,rfl,by rw[n2];simp[yT],rfl,λ k t hk=>?_,λ t ht p hp=>?_,λ f hf=>.inl (je f hf),λ t ht=>List.mem_cons_of_mem _ (n3 t ht).2,λ t ht=>?_,by show y.2.1.length<=8;omega,Nat.zero_le _⟩,.head _,rfl⟩,?_⟩
       ·unfold Jt
        rw[(n3 t (List.mem_of_getElem? hk)).1]
        intro i _ _
        rfl
       ·rw[(n3 t ht).1] at hp
        cases hp
       ·have hm:t.abs∈ls.map λ s=>(⟨s.l,0,none⟩:Xs):=by rw[<- n2];exact List.mem_map.2 ⟨t,ht,rfl⟩
        obtain⟨s,hs,e⟩:=List.mem_map.1 hm
        have e1:t.ops=s.l:=(congrArg Xs.ops e).symm;have e2:t.idx=0:=(congrArg Xs.idx e).symm;rw[e1,e2];exact⟨(hs16 s hs).1,Nat.zero_le _,λ hne=>absurd (n3 t ht).1 hne,(hs16 s hs).2⟩
       ·show SF _ _ (_::_::_::_::_::y.2.1.flatMap (N1 x16)) _ _ (_::_::(_++y.2.1.flatMap Pc)) _
        rw[hfl,hfo]
        exact(((hw.freeze .head).gN 76 11).perm (List.Perm.refl _) (List.Perm.swap _ _ _)).ret (by repeat (first|exact List.Sublist.refl _|apply List.Sublist.cons_cons|apply List.Sublist.cons)) (by exact aT.all) (List.Sublist.refl _)
end
end Go.Proofs.YthblobahelfefaaGreatDoor
namespace Go.Ct
open Go Go.RowKit
section
def InL(P:Program)(c:Code)(R:Exit->Act->World->Prop)(a:Act)(w:World):Prop :=∀(b:Frame) (k:List Item) (cs:List Frame),∃e a' w',R e a' w'/\Arrives P (lone (b.at a (.inLoop c::k)) cs w) b k cs e a' w'
section
variable{P:Program}{n:Nat}{Q:Exit->Act->World->Prop}{ks ks':List CK}{S:List (Nat×Value)}{G:World->Prop}{c:Code}
theorem Im(h:JK P n Q (.code c::.inv (InL P c (runK P Q ks))::ks) S G)(hS:Cf n S){w:World}(hw:G w)(b:Frame)(k:List Item)(cs:List Frame) :
  ∃e a' w',runK P Q ks e a' w'/\Arrives P (lone (b.at ⟨dU n S,[]⟩ (.code c::.inLoop c::k)) cs w) b k cs e a' w':=by
 have h1:=h.run hS w hw;simp only[runK] at h1;obtain⟨e,a₁,w₁,hq,harr⟩:=h1 b (.inLoop c::k) cs;rw[Hb] at hq;cases e with
 | normal=>obtain⟨e₂,a₂,w₂,hq₂,harr₂⟩:=hq b k cs;exact⟨e₂,a₂,w₂,hq₂,.of_steps harr harr₂⟩
 | exit id=>exact⟨_,a₁,w₁,hq,.pass (x:=.inLoop c) rfl (λ _ _=>.inl (by simp)) harr⟩
 | goto l=>exact⟨_,a₁,w₁,hq,.pass (x:=.inLoop c) rfl (λ _ _=>.inl (by simp)) harr⟩
 | ret=>exact⟨_,a₁,w₁,hq,.pass (x:=.inLoop c) rfl (λ _ _=>.inl (by simp)) harr⟩
 | panic ch=>exact⟨_,a₁,w₁,hq,.pass (x:=.inLoop c) rfl (λ _ _=>.inl (by simp)) harr⟩
 | outgrown=>exact⟨_,a₁,w₁,hq,.pass (x:=.inLoop c) rfl (λ _ _=>.inl (by simp)) harr⟩
theorem R9(h:JK P n Q (.code c::.inv (InL P c (runK P Q ks))::ks) S G):JK P n Q (.code (.loop c)::ks) S G:=⟨λ hS w hw=>by simp only[runK];intro b k cs;obtain⟨e,a',w',hq,harr⟩:=Im h hS hw b k cs;exact⟨e,a',w',hq,.of_steps (.one step_loop) harr⟩⟩
theorem vt(h:JK P n Q (.code c::.inv (InL P c (runK P Q ks))::ks) S G):JK P n Q (.inv (InL P c (runK P Q ks))::ks') S G:=⟨λ hS w hw=>by simp only[runK];intro b k cs;obtain⟨e,a',w',hq,harr⟩:=Im h hS hw b k cs;exact⟨e,a',w',hq,.of_steps (.one step_inLoop) harr⟩⟩
end
end
end Go.Ct
namespace Go.Proofs.YthblobahelfefaaGreatDoor
open Go.Proofs.Tryz
open Go Go.RowKit Go.Ct
section
theorem aAX{l:List Int}{a:Option Addr}{b c k:Nat}{w:World}(ht:aEN w b a l c k) :
  Calls prog 7 #[.pointer (some ⟨b,0,none⟩)] w λ e w' =>
  ∃v:Bool,e=.returned (.bool v)/\(v=true↔k<l.length)/\SF w [b] ((b,tpO a l c k)::[]) [] [] [] w':=by refine enter func7 ntmps7 rfl rfl ht.start ?_;simp only[bY];refine kt ?_;refine gL [0,1,2,3,4,5,6,7,8,9,10] ?_;refine bs ?_;refine Gj ?_;refine Gm ?_;refine J7 ?_;refine aP results7 (λ w hw=>?_);exact⟨_,rfl,by simp,hw.eP⟩
theorem Y7{O:List Ow}{A F:Fr}{b C:Nat}{Z:AM}{V':MV}(h:MI b C Z V')(hB:∀f∈V'.B,f∈F):bL A F O (cH V'.a.L++V'.B):=bL.of λ f hf=>by
 rcases List.mem_append.1 hf with hf|hf
 ·rcases h.fam f hf with h1|h1;·exact .inl h1
  ·exact .inr (.inr (.inl (hB f h1)))
 ·exact .inr (.inr (.inl (hB f hf)))
abbrev NW.L(m:Nat)(x:NW)(V:MV):List (Nat×Obj):=mcL m x.b x.bm x.bT x.bo x.bt x.bi x.pk V
theorem ji{w0 w:World}{M:List Nat}{A F:Fr}{O:List Ow}{L:List (Nat×Obj)}{q:Nat×Obj}(h:SF w0 M (L++[q]) A (F++[]) (O++[]) w):SF w0 M (q::L) A F O w:=by rw[List.append_nil,List.append_nil] at h;exact h.perm (List.perm_append_comm (l₁:=[q]) (l₂:=L)) (List.Perm.refl _)
theorem MI.up2{b C C':Nat}{Z:AM}{V:MV}(h:MI b C Z V)(hC:C<=C'):MI b C' Z V:=⟨h.ok,h.up,h.th,h.hist,h.tb,λ t ht p hp=>by obtain⟨h1,h2,h3,h4⟩:=h.pr t ht p hp;exact⟨h1,h2,h3,by omega⟩,h.fam,h.fo,h.oo,h.tl,by have:=h.hl;omega⟩
end
section
theorem Sj:cS prog 29 28 [.slice none 0 0]:=fX (z:=.slice none 0 0) (by kernel_rfl) (by kernel_rfl) rfl
theorem Ta:cS prog 22 3 [.int .i64 0]:=fX (z:=.int .i64 0) (by kernel_rfl) (by kernel_rfl) rfl
theorem Bp(k:ByteArray)(v:Int)(w:World):Calls prog 5 #[.string k,.int .u64 v] w λ e w'=>e=.returned (.agg ⟨kA.cells ⟨1,0,k,v,0⟩⟩)/\St w [] [] w':=by refine enter func5 ntmps5 rfl rfl (SF.s0 w) ?_;simp only[bY];refine K1h ?_;intro x4;refine aC ?_;refine lV ?_;refine P1 ?_;refine bJ results5 (λ w hw=>?_);exact⟨rfl,hw.done⟩
end
section
def okB(m k:Nat)(Z:AM):Bool :=
 match Z.th[k]? with
 | none=>true
 | some t=>match t.ops[t.idx]? with
  | none=>true
  | some o=>match t.pr with
   | none=>(match(Ct.iR (nL m o) Z.s).1 with|.stuck=>false|_=>true)
   | some T=>(match(mJ (T,Z.s)).1 with|.stuck=>false|_=>true)
theorem aDQ{m k:Nat}{Z:AM}(h:okB m k Z=true):Tf m k Z:=λ t o h1 h2=>by
 unfold okB at h;rw[h1] at h;dsimp only at h;rw[h2] at h;dsimp only at h;cases hp:t.pr with
 | none=>rw[hp] at h;dsimp only at h ⊢;intro e;rw[e] at h;cases h
 | some T=>rw[hp] at h;dsimp only at h ⊢;intro e;rw[e] at h;cases h
def Yr(m k:Nat)(Z:AM):Bool:=okB m k Z&&(Nat.ble Z.s.nodes.length 1000&&(Nat.ble Z.s.cs.length 1000&&decide (0<=Z.s.gen/\Z.s.gen<=1000)))
theorem Qf{m k:Nat}{Z:AM}(h:Yr m k Z=true):Tf m k Z/\Z.s.gM:=by unfold Yr at h;simp only[Bool.and_eq_true] at h;obtain⟨h1,h2,h3,h4⟩:=h;have h2':=Nat.le_of_ble_eq_true h2;have h3':=Nat.le_of_ble_eq_true h3;have h5:=of_decide_eq_true h4;exact⟨aDQ h1,by omega,by omega,by omega,by omega⟩
def z9(m:Nat):List Nat->AM->Bool
 | [],_=>true
 | k::l,Z=>Yr m k Z&&z9 m l (fF m k Z)
theorem X7{m:Nat}:∀{l:List Nat} {Z:AM},z9 m l Z=true->∀i (h:i<l.length),Tf m l[i] (oD m (l.take i) Z)/\(oD m (l.take i) Z).s.gM
 | [],_,_,i,h=>absurd h (Nat.not_lt_zero i)
 | k::l,Z,hc,i,h=>by
  unfold z9 at hc;rw[Bool.and_eq_true] at hc;cases i with
  | zero=>exact Qf hc.1
  | succ i=>exact X7 hc.2 i (by simpa using h)
def yh(m n:Nat):Nat->Nat->AM->Bool
 | _,0,Z=>Z.iE
 | r,K+1,Z=>!Z.iE&&(Yr m (r%n) Z&&yh m n (r+1) K (fF m (r%n) Z))
theorem W8{m n:Nat}:∀{K r:Nat} {Z:AM},yh m n r K Z=true->(∀i,i<K->(D7 m n r i Z).iE=false/\Tf m ((r+i)%n) (D7 m n r i Z)/\(D7 m n r i Z).s.gM)/\(D7 m n r K Z).iE=true
 | 0,_,_,h=>⟨λ i hi=>absurd hi (Nat.not_lt_zero i),h⟩
 | K+1,r,Z,h=>by
  unfold yh at h;simp only[Bool.and_eq_true,Bool.not_eq_true'] at h;obtain⟨h1,h2,h3⟩:=h;obtain⟨g1,g2⟩:=W8 h3;refine⟨λ i hi=>?_,by rw[rB];exact g2⟩;cases i with
  | zero=>exact⟨h1,Qf h2⟩
  | succ i=>rw[rB,show r+(i+1)=r+1+i by omega];exact g1 i (by omega)
def Dz:ByteArray:=⟨#[97]⟩
def opA:List (List kA):=[[⟨1,0,Dz,1,0⟩],[⟨1,0,Dz,2,0⟩,⟨7,0,Dz,0,0⟩]]
def u7:List Nat:=[0,1,0,1,0,1,0,1,0,1,1,0]
def vh:List gE:=[⟨0,0,false,Rs.zero⟩,⟨1,0,false,Rs.zero⟩,⟨0,0,true,A7 false 0⟩,⟨1,0,true,A7 true 1⟩,⟨1,1,false,Rs.zero⟩,⟨1,1,true,dW true 2⟩]
theorem aDV(π:Pv):z9 63 u7 (yT opA π)=true:=by kernel_rfl
theorem qt(π:Pv):yh 63 2 0 22 (oD 63 u7 (yT opA π))=true:=by kernel_rfl
theorem vo(π:Pv):(D7 63 2 0 22 (oD 63 u7 (yT opA π))).hist=vh:=by kernel_rfl
end
end Go.Proofs.YthblobahelfefaaGreatDoor
