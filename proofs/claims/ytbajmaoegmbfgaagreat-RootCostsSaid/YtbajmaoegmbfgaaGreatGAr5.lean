/- Nodes of the program's arena are read; lists are cloned; the state is read. -/
import Derived.Test.YtbajmaoegmbfgaaGreatAr4
import Derived.Test.YtbajmaoegmbfgaaGreatGBits

set_option linter.unusedSimpArgs false
set_option linter.unusedVariables false
namespace Go.Ct
section
theorem Cl.kz{w:Go.World}{cs:List Go.Value}(h:Cl w none cs):cs=[]:=by
 cases cs with
 | nil=>rfl
 | cons v r=>exact absurd (h.ptr (by simp)) (by simp)
theorem Yr{l:List Int}(h:aH l=[]):l=[]:=by simpa[aH] using h
theorem Hw{L:List aP}{k:Nat}(h:k<2):aB (cN L) ((k+1:Nat):Int)=fK:=by
 rw[rW (by rw[kA];omega)]
 rcases(show k=0∨k=1 by omega) with rfl|rfl<;>rfl
theorem Jq{L:List aP}{k:Nat}(h:2<=k)(h2:k<L.length+2):aB (cN L) ((k+1:Nat):Int)=L.getD (k+1-2-1) aP.zero:=by
 rw[rW (by rw[kA];omega)]
 obtain⟨j,rfl⟩:∃j,k=j+2:=⟨k-2,by omega⟩
 rw[show j+2+1-2-1=j by omega]
 rfl
end
end Go.Ct
namespace Go.Proofs.YtbajmaoegmbfgaaGreat
section
open Go.RowKit Go.Ct
variable{w:World}{D:List Nat}{b:Nat}{L:List aP}{cs:List Int}{gen acc:Int}{pn pc:Option Addr}{cn cc:Nat}{A:Fr}
theorem Ag{l:List Int}{a:Option Addr}{c:Nat}{w:World}(ha:Cl w a (aH l))(hl:l.length<=274877906944):Calls Tryz.prog 84 #[.slice a l.length c] w λ e w' =>
  ∃x:Option Addr×Nat,e=.returned (.slice x.1 l.length x.2)/\True/\SF w [] [] [] [] [⟨x.1,aH l,x.2,37,1⟩] w':=by
 refine enter Tryz.func84 Tryz.ntmps84 rfl rfl (SF.s1 ha) ?_
 simp only[cA]
 refine Kb3 ?_;refine sU ?_
 refine bD (λ c4=>?_) (λ c4=>?_)
 ·have e0:a=none:=by cases a with|none=>rfl|some _=>cases c4
  subst e0
  obtain rfl:=Yr ha.kz
  refine cS ?_
  refine aQ Tryz.results84 (λ w hw=>?_)
  exact⟨(none,0),rfl,trivial,(hw.kU 37 1).aX⟩
 ·refine aW ?_;refine J0 ?_;refine iS (λ x5=>?_);refine aA ?_;(refine fE (λ x7=>?_);try (refine eN (λ h7=>?_)));refine J1 ?_
  refine aQ Tryz.results84 (λ w hw=>?_)
  exact⟨x7,by simp only[Nat.zero_add];rfl,trivial,by simpa using hw.aX (F':=[]) (H':=[])⟩
theorem kx(hs:SF w D [(b,aO L cs gen acc pn cn pc cc)] A [] (mW L cs pn cn pc cc) w)(r:Int)(hr:r<1)(hl:L.length<=274877906944) :
  Calls Tryz.prog 36 #[.pointer (some ⟨b,0,none⟩),.int .i64 r] w λ e w'=>∃q:Option Addr×Option Addr,e=.returned ((aB (cN L) r).at_ q.1 q.2).nd.v/\True /\
  SF w D [(b,aO L cs gen acc pn cn pc cc)] [] [] (mW L cs pn cn pc cc++[⟨q.2,cZ (aB (cN L) r).ys,(aB (cN L) r).ys.length,164,2⟩,⟨q.1,aH (aB (cN L) r).xs,(aB (cN L) r).xs.length,37,1⟩]) w':=by
 rw[qD (by omega)]
 refine enter Tryz.func36 Tryz.ntmps36 rfl rfl (wK hs) ?_
 simp only[cA]
 refine J0 ?_;refine aJ (λ x4=>?_);refine aG ?_;refine kR ?_;refine Bu ?_
 (refine dZ 7 (λ g7=>?_) (λ g7=>?_)<;>(try (exfalso;omega))<;>(refine aI ?_))
 (refine aI ?_);(refine aI ?_);refine Ka8 ?_
 refine bD (λ c12=>?_) (λ c12=>?_)
 ·try (exfalso;omega)
  refine Kc0 ?_
  refine aY Tryz.results36 (λ w hw=>?_)
  exact⟨(none,none),rfl,trivial,(hw.xk 164 2 37 1).aX⟩
 ·exact nv c12
theorem cq(hs:SF w D [(b,aO L cs gen acc pn cn pc cc)] (aL L) [] (mW L cs pn cn pc cc) w)(hf:Fits L){k:Nat}(hk:(k:Int)<9223372036854775807)(hl:L.length<=274877906944) :
  Calls Tryz.prog 36 #[.pointer (some ⟨b,0,none⟩),.int .i64 ((k+1:Nat):Int)] w λ e w'=>∃q:Option Addr×Option Addr,e=.returned ((aB (cN L) ((k+1:Nat):Int)).at_ q.1 q.2).nd.v/\True /\
  SF w D [(b,aO L cs gen acc pn cn pc cc)] [] [] (mW L cs pn cn pc cc++[⟨q.2,cZ (aB (cN L) ((k+1:Nat):Int)).ys,(aB (cN L) ((k+1:Nat):Int)).ys.length,164,2⟩,⟨q.1,aH (aB (cN L) ((k+1:Nat):Int)).xs,(aB (cN L) ((k+1:Nat):Int)).xs.length,37,1⟩]) w':=by
 refine enter Tryz.func36 Tryz.ntmps36 rfl rfl (wK hs) ?_
 simp only[cA]
 refine J0 ?_;refine aJ (λ x4=>?_);refine aG ?_;refine kR ?_;refine Bu ?_
 (refine Ka3 ?_)
 ((refine Ka3 ?_));((refine aE ?_;refine aD (cM (hc:=λ w hs=>nV (m:=L.length) hs (by omega))) (λ x10 h10=>?_)));refine Ka8 ?_
 refine bD (λ c12=>?_) (λ c12=>?_)
 ·try (exfalso;omega)
  refine Kc0 ?_
  refine aY Tryz.results36 (λ w hw=>?_)
  exact⟨(none,none),by rw[qD (by rw[kA];omega)];rfl,trivial,by rw[qD (by rw[kA];omega)];exact(hw.xk 164 2 37 1).aX⟩
 ·try (exfalso;omega)
  refine kO ?_;refine J2 ?_;refine zJ ?_;refine aG ?_
  refine bD (λ c15=>?_) (λ c15=>?_)
  ·try (exfalso;omega)
   refine Kc0 ?_
   refine aY Tryz.results36 (λ w hw=>?_)
   exact⟨(none,none),by rw[Hw (by omega)];rfl,trivial,by rw[Hw (by omega)];exact(hw.xk 164 2 37 1).aX⟩
  ·try (exfalso;omega)
   refine r7 ?_;refine aA ?_;refine aC (by exact jR (n:=2) rf rf (by omega) (by omega)) rfl ?_;refine aC (by exact jc rf rf (by omega) (by omega)) rfl ?_;refine Ru ?_;refine aD (Sv (Hc:=λ _=>[]) (Fc:=λ _=>[]) (V:=λ p:Option Addr×Option Addr=>((L.getD (k+1-2-1) aP.zero).at_ p.1 p.2).nd.v) (hc:=λ w1 hw=>Vz (hw.aA5 hf (by omega)) (hf.at (by omega)).brS (hf.at (by omega)).prS)) (λ x26 h26=>?_);refine J5 ?_
   refine aY Tryz.results36 (λ w hw=>?_)
   exact⟨x26,by rw[Jq (by omega) (by omega)];rfl,trivial,by rw[Jq (by omega) (by omega)];exact hw.toEnd.aX⟩
end

/- The arena's state is read. -/
section
open Go.RowKit Go.Ct
variable{w:World}{D:List Nat}{b:Nat}{L:List aP}{cs:List Int}{gen acc:Int}{pn pc:Option Addr}{cn cc:Nat}{A:Fr}
theorem L0(hs:SF w D [(b,aO L cs gen acc pn cn pc cc)] (aL L) [] (mW L cs pn cn pc cc) w)(hf:Fits L)(r:Int)(hr:r<=9223372036854775807)(hl:L.length<=274877906944) :
  Calls Tryz.prog 36 #[.pointer (some ⟨b,0,none⟩),.int .i64 r] w λ e w'=>∃q:Option Addr×Option Addr,e=.returned (.agg ⟨((aB (cN L) r).at_ q.1 q.2).nd.cells⟩)/\True /\
  SF w D [(b,aO L cs gen acc pn cn pc cc)] [] [] (mW L cs pn cn pc cc++[⟨q.2,cZ (aB (cN L) r).ys,(aB (cN L) r).ys.length,164,2⟩,⟨q.1,aH (aB (cN L) r).xs,(aB (cN L) r).xs.length,37,1⟩]) w':=by
 rcases Int.lt_or_le r 1 with h|h
 ·exact kx hs r h hl
 ·obtain⟨k,rfl⟩:∃k:Nat,r=((k+1:Nat):Int):=⟨(r-1).toNat,by omega⟩
  exact cq hs hf (by omega) hl
theorem Q8(hs:SF w D [(b,aO L cs gen acc pn cn pc cc)] (aL L) [] (mW L cs pn cn pc cc) w)(hf:Fits L)(hl:L.length<=274877906944)(hc:cs.length<=274877906944) :
  Calls Tryz.prog 32 #[.pointer (some ⟨b,0,none⟩)] w λ e w'=>∃x:List aP×(Option Addr×Nat)×(Option Addr×Nat),e=.returned (.agg ⟨[.slice x.2.1.1 x.1.length x.2.1.2,.slice x.2.2.1 cs.length x.2.2.2,.int .i64 gen]⟩) /\
   (x.1.map aP.c=(cN L).map aP.c/\Fits x.1) /\
  SF w D [(b,aO L cs gen acc pn cn pc cc)] [] (aL x.1) (mW L cs pn cn pc cc++[⟨x.2.1.1,iO x.1,x.2.1.2,47,14⟩,⟨x.2.2.1,aH cs,x.2.2.2,37,1⟩]) w':=by
 refine enter Tryz.func32 Tryz.ntmps32 rfl rfl (wK hs) ?_
 simp only[cA]
 refine J0 ?_;refine aJ (λ x2=>?_);refine Rr ?_
 refine dX [3,5,6,7,8,9,10,11,12,13,14] (λ j:Nat×Option Addr×Nat=>[(3,.pointer (some ⟨j.1,0,none⟩))]) (λ _=>True) (λ j=>[(j.1,.cells ⟨[.slice none 0 0,.slice j.2.1 cs.length j.2.2,.int .i64 gen]⟩ 52 (0,0)),(x2,.cells ⟨[.slice none 0 0,.slice none 0 0,.int .i64 0]⟩ 52 (0,0)),(b,aO L cs gen acc pn cn pc cc)]) (λ _=>[]) (λ j=>[⟨j.2.1,aH cs,j.2.2,37,1⟩,⟨pn,iO L,cn,47,14⟩,⟨pc,aH cs,cc,37,1⟩]) (by decide) (λ _=>by exact rfl) ?_ (λ j f hx=>?_)
 ·refine fR (.one 0 [] (.one 1 [] (.one 2 [] (.one 3 [] (.one 5 [] (.one 6 [] (.one 7 [] (.one 8 [] (.two 4 [8] (.one 9 [] (.one 10 [3,8] (.one 11 [] .nil))) 0 [] (.two 10 [3,8] (.one 4 [8] (.one 9 [] (.one 11 [] .nil))) 0 [] .nil)))))))))) ?_
  refine Ek ?_
  refine fD (E:=[4,10]) (by decide +kernel) ((.cons ?_ (.cons ?_ .nil)))
  ·refine kC (i:=4) (hq:=(Sv (Hc:=λ _=>[]) (Fc:=λ _=>[]) (hc:=λ w1 hw=>Ag (hw.cl fin) hc))) (h:=λ x9 h9=>?_)
   refine fJ ?_;refine gJ (h:=λ x3=>?_);refine yR ?_
   refine eE ((x3,x9.1,x9.2)) ?_
   ·trivial
  ·refine fI (i:=10) (h:=λ x3=>?_)
   refine bC (i:=4) (hq:=(Sv (Hc:=λ _=>[]) (Fc:=λ _=>[]) (hc:=λ w1 hw=>Ag (hw.cl fin) hc))) (h:=λ x9 h9=>?_);refine fJ ?_;refine yR ?_
   refine eE ((x3,x9.1,x9.2)) ?_
   ·trivial
 dsimp only[hX,List.map,List.cons_append,List.nil_append]
 refine J2 ?_;refine aD (cM (hc:=λ w hs=>nV (m:=L.length) hs (by omega))) (λ x16 h16=>?_);refine qY (λ x17=>?_);refine vF ?_;refine kR ?_;refine aD (cM (hc:=λ w hs=>nV (m:=L.length) hs (by omega))) (λ x20 h20=>?_);refine M2 ?_;refine dD ?_
 refine oK [4,21,22,23,24,25,26,27,28,29,30,31,32,33] (λ y:List aP×Option Addr×Nat=>[(21,.int .i64 ((y.1.length:Nat):Int))]) (λ y=>y.1.map aP.c=((cN L).take y.1.length).map aP.c/\y.1.length<=L.length+2/\Fits y.1) (λ y=>[(j.1,.cells ⟨[.slice y.2.1 y.1.length y.2.2,.slice j.2.1 cs.length j.2.2,.int .i64 gen]⟩ 52 (0,0)),(x2,.cells ⟨[.slice none 0 0,.slice none 0 0,.int .i64 0]⟩ 52 (0,0)),(b,aO L cs gen acc pn cn pc cc)]) (λ y=>aL y.1) (λ y=>[⟨y.2.1,iO y.1,y.2.2,47,14⟩,⟨j.2.1,aH cs,j.2.2,37,1⟩,⟨pn,iO L,cn,47,14⟩,⟨pc,aH cs,cc,37,1⟩]) (λ y=>L.length+2-y.1.length) (([],some ⟨x17,0,none⟩,L.length+2)) (⟨rfl,Nat.zero_le _,λ _ h=>(List.not_mem_nil h).elim⟩) (λ y f hx=>?_) (hw0:=λ w hw=>hw.back)
 dsimp only[hX,List.map,List.cons_append,List.nil_append]
 refine J0 ?_;refine Bv ?_;refine aS ?_
 refine bD (λ c22=>?_) (λ c22=>?_)
 ·refine rR ?_;refine Ka5 ?_;refine eG [(0,[]),(1,[]),(2,[]),(3,[]),(4,[]),(5,[1]),(6,[1]),(7,[]),(8,[]),(9,[])] ?_;refine nA ?_;refine iF ?_;refine lr ?_;refine bC (i:=5) (hq:=(cMO (hc:=λ w hs=>L0 hs hf ((y.1.length+1:Nat):Int) (by omega) hl))) (h:=λ x29 h29=>?_);refine cB (h:=λ x30=>?_);((refine cO (i:=7) (hq:=(bG.eM (Uv ((aB (cN L) ((y.1.length+1:Nat):Int)).at_ x29.1 x29.2) rf rf yX rfl fin Kz rfl gH om) vJ)) (h:=λ x31=>?_);try (refine eI (λ h31=>?_))));refine aU ?_;refine yR ?_;refine fG ?_;refine nk ?_;refine M2 ?_
  refine jG ((y.1++[(aB (cN L) ((y.1.length+1:Nat):Int)).at_ x29.1 x29.2],x31.1,x31.2)) ?_ (hw1:=λ w hw=>by
   have h2:=(hw.freeze .head).freeze .head
   simp only[rM] at h2
   have h3:=h2.u9 (L:=y.1) (v:=(aB (cN L) ((y.1.length+1:Nat):Int)).at_ x29.1 x29.2) (F':=[]) (List.mem_cons_self ..) (List.mem_cons_of_mem _ (List.mem_cons_self ..)) (λ f hf=>List.mem_cons_of_mem _ (List.mem_cons_of_mem _ (List.mem_cons_of_mem _ hf)))
   simpa using h3) (hμ:=by simp only[List.length_append,List.length_cons,List.length_nil];omega)
  ·have hlt:y.1.length<(cN L).length:=by rw[kA];omega
   refine⟨?_,by simp only[List.length_append,List.length_cons,List.length_nil];omega,λ v hv=>?_⟩
   ·rw[List.map_append,hx.1,List.length_append,List.length_singleton,List.take_succ_eq_append_getElem hlt,List.map_append,rW hlt,jN,List.getElem?_eq_getElem hlt]
    rfl
   ·rcases List.mem_append.1 hv with hv|hv
    ·exact hx.2.2 v hv
    ·simp only[List.mem_singleton] at hv
     subst hv
     exact aP.ko (Jg hf.all _) _ _
 ·refine bR rfl ?_;refine nF ?_;refine J5 ?_
  refine aY Tryz.results32 (λ w hw=>?_)
  have hlen:y.1.length=L.length+2:=by omega
  refine⟨(y.1,(y.2.1,y.2.2),(j.2.1,j.2.2)),rfl,⟨by rw[hx.1,hlen,List.take_of_length_le (by rw[kA];omega)],hx.2.2⟩,?_⟩
  exact(SF.toEnd hw).ret (by repeat (first|exact List.Sublist.refl _|apply List.Sublist.cons)) aV.all (List.Sublist.refl _)
end

/- Proper states: the program's check. -/
end Go.Proofs.YtbajmaoegmbfgaaGreat
namespace Go.Ct
section
def gE(n:Nd):Option Int:=if n.kind=2 then some n.main else if n.kind=3∨n.kind=5∨n.kind=6 then some n.prev else if n.kind=8 then some n.status else none
def eR(u:Option (List Bool))(n:Nd):Option (List Bool) :=
 match u with
 | none=>none
 | some u=>match gE n with
  | none=>some u
  | some c=>if 1<=c/\c<=u.length/\u.getD (c-1).toNat false=false then some (u.set (c-1).toNat true) else none
def marks(m:Nat)(L:List aP):Option (List Bool):=L.foldl (λ u v=>eR u v.nd) (some (List.replicate m false))
theorem nX{m:Nat}{L:List aP}{k:Nat}(h:k<L.length):marks m (L.take (k+1))=eR (marks m (L.take k)) (L.getD k aP.zero).nd:=by
 rw[marks,List.take_succ_eq_append_getElem h,List.foldl_append,jN,List.getElem?_eq_getElem h]
 rfl
theorem F6{m:Nat}{L:List aP}{k:Nat}(h:marks m (L.take k)=none):marks m L=none:=by
 have e:L=L.take k++L.drop k:=(List.take_append_drop k L).symm
 rw[e,marks,List.foldl_append]
 rw[marks] at h
 rw[h]
 generalize L.drop k=l
 induction l with
 | nil=>rfl
 | cons v l ih=>exact ih
theorem Ca{m:Nat}:∀{L:List aP} {u:List Bool},marks m L=some u->u.length=m:=by
 intro L
 have key:∀(l:List aP) (u0:Option (List Bool)),(∀u,u0=some u->u.length=m)->∀u,l.foldl (λ u v=>eR u v.nd) u0=some u->u.length=m:=by
  intro l
  induction l with
  | nil=>intro u0 h u hu;exact h u hu
  | cons v l ih =>
   intro u0 h u hu
   refine ih (eR u0 v.nd) (λ u1 h1=>?_) u hu
   cases u0 with
   | none=>simp[eR] at h1
   | some u2 =>
    have:=h u2 rfl
    simp only[eR] at h1
    cases hc:gE v.nd with
    | none=>rw[hc] at h1;simp only[Option.some.injEq] at h1;rw[<- h1];exact this
    | some c =>
     rw[hc] at h1
     simp only at h1
     split at h1
     ·simp only[Option.some.injEq] at h1;rw[<- h1,List.length_set];exact this
     ·cases h1
 intro u hu
 exact key L _ (λ u h=>by simp only[Option.some.injEq] at h;rw[<- h];simp) u hu
def Ei(r:Int)(n:Nat):Prop:=0<=r/\r<=(n:Int)
instance (r:Int) (n:Nat):Decidable (Ei r n):=inferInstanceAs (Decidable (0<=r/\r<=(n:Int)))
theorem xu{r:Int}{n:Nat}(h:0<=r):decide (Ei r n)=decide (r<=(n:Int)):=by
 by_cases h2:r<=(n:Int)
 ·rw[decide_eq_true h2,decide_eq_true ⟨h,h2⟩]
 ·rw[decide_eq_false h2,decide_eq_false λ h3=>h2 h3.2]
def Sc(n:Nd)(xs:List Int)(N:Nat):Prop:=(∀i,i<xs.length->Ei (xs.getD i 0) N)/\Ei n.bA N/\Ei n.exp N/\Ei n.new N
def nC(gen:Int)(N:Nat)(v:aP):Prop:=cE v.nd v.xs v.ys/\v.nd.gen<=gen/\Sc v.nd v.xs N
structure fP(L:List aP)(cs:List Int)(gen:Int):Prop where
 two:2<=L.length
 gen0:0<=gen
 m0:(L.getD 0 aP.zero).nd.kind=1
 m1:(L.getD 1 aP.zero).nd.kind=1
 cells:∀i,i<cs.length->Ei (cs.getD i 0) L.length
 nodes:∀i,i<L.length->nC gen L.length (L.getD i aP.zero)
 marks:marks cs.length L≠none
end
end Go.Ct
namespace Go.Proofs.YtbajmaoegmbfgaaGreat
section
open Go.RowKit Go.Ct
theorem wC(r:Int)(n:Nat)(w:World):Calls Tryz.prog 157 #[.int .i64 r,.int .i64 ((n:Nat):Int)] w λ e w'=>e=.returned (.bool (decide (Ei r n)))/\St w [] [] w':=by
 refine enter Tryz.func157 Tryz.ntmps157 rfl rfl (SF.s0 w) ?_
 simp only[cA]
 refine cS ?_;refine J2 ?_;refine oG ?_;refine aA ?_
 (refine dZ 7 (λ g7=>?_) (λ g7=>?_)<;>refine Ka0 ?_)
 all_goals (refine Ka0 ?_;(first|refine aI ?_|(refine aE ?_;refine zJ ?_));refine Kb9 ?_)
 all_goals
 refine aQ Tryz.results157 (λ w hw=>?_)
 refine⟨?_,hw.done⟩
 first|(rw[decide_eq_false (show ¬Ei r n from λ h=>by have:=h.1;have:=h.2;omega)];rfl)|(rw[xu (by omega)];rfl)
theorem Mp{n:Nd}{xs:List Int}{N:Nat}{w:World}(e1:n.brN=xs.length)(ha:Cl w n.brA (aH xs))(hx:xs.length<4611686018427387904) :
  Calls Tryz.prog 159 #[n.v,.int .i64 ((N:Nat):Int)] w λ e w'=>∃r:Bool,e=.returned (.bool r)/\(r=true↔Sc n xs N)/\St w [] [] w':=by
 refine enter Tryz.func159 Tryz.ntmps159 rfl rfl (SF.s1 ha) ?_
 simp only[cA]
 simp only[Nd.v,Nd.cells,e1]
 refine J0 ?_;refine bK (λ x2=>?_);refine iZ ?_;refine iB ?_;refine eA ?_;refine M2 ?_;refine dD ?_
 refine oK [4,6,10,11,12,13,14,15,16,17,18] (λ k=>[(10,.int .i64 ((k:Nat):Int))]) (λ k=>k<=xs.length/\∀i,i<k->Ei (xs.getD i 0) N) (λ k=>_) (λ _=>_) (λ _=>_) (λ k=>xs.length-k) (0) (⟨Nat.zero_le _,λ i hi=>absurd hi (Nat.not_lt_zero i)⟩) (λ k f hx=>?_)
 dsimp only[hX,List.map,List.cons_append,List.nil_append]
 refine J0 ?_;refine Bv ?_;refine aS ?_
 refine bD (λ c11=>?_) (λ c11=>?_)
 ·refine rR ?_;refine J0 ?_;refine Ru ?_;refine Ai ?_;refine aN (cV (hc:=λ w1 hw=>wC _ N w1)) (λ x16=>?_);refine pE ?_
  refine bD (λ c17=>?_) (λ c17=>?_)
  ·refine cS ?_
   refine aQ Tryz.results159 (λ w hw=>?_)
   exact⟨false,rfl,⟨(λ h=>nomatch h),λ h=>absurd (h.1 k (by omega)) (by assumption)⟩,hw.done⟩
  ·refine pG ?_;refine nk ?_;refine M2 ?_
   refine jG (k+1) ?_
   ·exact⟨by omega,λ i hi=>by rcases Nat.lt_succ_iff_lt_or_eq.1 hi with h|rfl;exact hx.2 i h;assumption⟩
 ·refine bR rfl ?_;refine Kd0 ?_;refine aN (cV (hc:=λ w1 hw=>wC _ N w1)) (λ x22=>?_);refine aA ?_
  (refine dZ 23 (λ g23=>?_) (λ g23=>?_)<;>refine Ka1 ?_)
  all_goals (refine dp ?_;(first|refine aI ?_|(refine aE ?_;refine aN (cV (hc:=λ w1 hw=>wC _ N w1)) (λ x27=>?_)));refine Ka6 ?_)
  all_goals (first|refine aI ?_|(refine dZ 29 (λ g29=>?_) (λ g29=>?_)<;>refine Ka1 ?_))
  all_goals (refine dp ?_;(first|refine aI ?_|(refine aE ?_;refine aN (cV (hc:=λ w1 hw=>wC _ N w1)) (λ x33=>?_)));refine Kb9 ?_)
  all_goals
  refine aQ Tryz.results159 (λ w hw=>?_)
  have hall:∀i,i<xs.length->Ei (xs.getD i 0) N:=λ i hi=>hx.2 i (by omega)
  first|exact⟨_,rfl,by simp_all[Sc],hw.done⟩
theorem cw(n:Nd)(w:World):Calls Tryz.prog 160 #[n.v] w λ e w'=>e=.returned (.tuple #[.int .i64 ((gE n).getD 0),.bool (gE n).isSome])/\St w [] [] w':=by
 refine enter Tryz.func160 Tryz.ntmps160 rfl rfl (SF.s0 w) ?_
 simp only[cA]
 simp only[Nd.v,Nd.cells]
 refine J0 ?_;refine bK (λ x1=>?_);refine J8 ?_;refine Ds ?_;refine iB ?_;refine Rq ?_
 refine bD (λ c4=>?_) (λ c4=>?_)
 ·refine iB ?_;refine J8 ?_
  refine aY Tryz.results160 (λ w hw=>?_)
  refine⟨?_,hw.done⟩
  (rw[show gE n=some n.main by simp[gE,c4]];rfl)
 ·refine nF ?_;refine aD (c0 (V:=.bool) (hc:=λ w1 hw=>Sq n w1)) (λ x12 h12=>?_);refine J1 ?_
  refine bD (λ c10=>?_) (λ c10=>?_)
  ·have k22:n.kind=3∨n.kind=5∨n.kind=6:=h12.1 c10
   refine iB ?_;refine J8 ?_
   refine aY Tryz.results160 (λ w hw=>?_)
   refine⟨?_,hw.done⟩
   (rw[show gE n=some n.prev by simp only[gE];rw[if_neg c4,if_pos k22]];rfl)
  ·have k22:¬(n.kind=3∨n.kind=5∨n.kind=6):=λ k=>by rw[h12.2 k] at c10;cases c10
   refine iB ?_;refine Rq ?_
   refine bD (λ c15=>?_) (λ c15=>?_)
   ·refine iB ?_;refine J8 ?_
    refine aY Tryz.results160 (λ w hw=>?_)
    refine⟨?_,hw.done⟩
    (rw[show gE n=some n.status by simp only[gE];rw[if_neg c4,if_neg k22,if_pos c15]];rfl)
   ·refine pG ?_;refine Py ?_
    refine aY Tryz.results160 (λ w hw=>?_)
    refine⟨?_,hw.done⟩
    (rw[show gE n=none by simp only[gE];rw[if_neg c4,if_neg k22,if_neg c15]];rfl)
end

/- Proper states: the walk through the program's check. -/
section
open Go.RowKit Go.Ct
set_option maxRecDepth 100000 in
theorem Pu{L:List aP}{cs:List Int}{gen:Int}{pn pc:Option Addr}{cn cc:Nat}{w:World}(h:qV w L cs pn pc)(hL:L.length<=274877906944)(hC:cs.length<=274877906944) :
    Calls Tryz.prog 117 #[.agg ⟨[.slice pn L.length cn,.slice pc cs.length cc,.int .i64 gen]⟩] w λ e w'=>∃r:Bool,e=.returned (.bool r)/\(r=true↔fP L cs gen)/\St w [] [] w':=by
  refine enter Tryz.func117 Tryz.ntmps117 rfl rfl h.start ?_
  simp only[cA]
  refine J0 ?_;refine bK (λ x1=>?_);refine iZ ?_;refine iB ?_;refine eA ?_;refine Bu ?_
  (refine dZ 14 (λ g14=>?_) (λ g14=>?_)<;>refine Ka1 ?_)
  all_goals (refine zr ?_;refine aG ?_)
  all_goals
   refine bD (λ c18=>?_) (λ c18=>?_)
   · all_goals refine cS ?_
     all_goals
      refine aQ Tryz.results117 (λ w hw=>?_)
      exact⟨false,rfl,⟨(λ h=>nomatch h),λ hp=>by have h1:=hp.two;have h2:=hp.gen0;exfalso;omega⟩,hw.done⟩
   · try exact nv c18
     all_goals (refine kO ?_;refine iB ?_;refine aC (sN (k:=0) rf rf gH eF fin (by omega) (by omega)) rfl ?_;refine aF ?_;refine aC (xG (q:=0) rf fZ fin (by omega)) rfl ?_;refine kF ?_;refine aA ?_)
     all_goals ((refine dZ 25 (λ g25=>?_) (λ g25=>?_)<;>refine Ka1 ?_))
     all_goals (refine Ka2 ?_;(first|refine aI ?_|(refine aE ?_;refine aC (sN (k:=1) rf rf gH eF fin (by omega) (by omega)) rfl ?_));refine Ka1 ?_;(first|refine aI ?_|(refine aE ?_;refine aC (xG (q:=1) rf fZ fin (by omega)) rfl ?_));refine Rx ?_;refine aG ?_)
     all_goals
      refine bD (λ c32=>?_) (λ c32=>?_)
      · all_goals refine cS ?_
        all_goals
         refine aQ Tryz.results117 (λ w hw=>?_)
         exact⟨false,rfl,⟨(λ h=>nomatch h),λ hp=>by have h1:=hp.m0;have h2:=hp.m1;exfalso;omega⟩,hw.done⟩
      · try exact nv c32
        all_goals (refine kO ?_;refine iB ?_;refine eA ?_;refine M2 ?_;refine dD ?_)
        all_goals
         refine iL [2,4,36,37,38,39,40,41,42,43,44,45,46] (λ k=>[(36,.int .i64 ((k:Nat):Int))]) (λ k=>k<=cs.length/\∀i,i<k->Ei (cs.getD i 0) L.length) (λ k=>cs.length-k) (0) (⟨Nat.zero_le _,λ i hi=>absurd hi (Nat.not_lt_zero i)⟩) ?_ (λ k f hx=>?_)
         · repeat (first|exact bJ _|refine bF (by exact rfl) ?_)
         dsimp only[hX,List.map,List.cons_append,List.nil_append]
         refine J0 ?_;refine Bv ?_;refine aS ?_
         refine bD (λ c37=>?_) (λ c37=>?_)
         · refine rR ?_;refine J0 ?_;refine Ru ?_;refine Ka4 ?_;refine R3 ?_;refine aN (cV (hc:=λ w1 hw=>wC _ _ w1)) (λ x44=>?_);refine pE ?_
           refine bD (λ c45=>?_) (λ c45=>?_)
           · refine cS ?_
             refine aQ Tryz.results117 (λ w hw=>?_)
             exact⟨false,rfl,⟨(λ h=>nomatch h),λ hp=>absurd (hp.cells k (by omega)) (by assumption)⟩,hw.done⟩
           · refine pG ?_;refine nk ?_;refine M2 ?_
             refine fL (k+1) ?_ ?_ ?_
             · omega
             · repeat' (first|exact bJ _|refine bF ?_ ?_)
               exact rfl
             · exact⟨by omega,λ i hi=>by rcases Nat.lt_succ_iff_lt_or_eq.1 hi with h|rfl;exact hx.2 i h;assumption⟩
         · refine bR rfl ?_;refine iB ?_;refine eA ?_;refine qY (λ x50=>?_);refine iZ ?_;refine iB ?_;refine eA ?_;refine M2 ?_;refine dD ?_
           have hcells:∀i,i<cs.length->Ei (cs.getD i 0) L.length:=λ i hi=>hx.2 i (by omega)
           clear hx
           refine oK [2,7,8,9,54,55,56,57,58,59,60,61,62,63,64,65,66,67,68,69,70,71,72,73,74,75,76,77,78,79,80,81,82,83,84,85,86,87,88,89,90,91,92,93,94,95,96,97,98,99,100,101,102,103] (λ y:Nat×List Bool=>[(54,.int .i64 ((y.1:Nat):Int))]) (λ y=>y.1<=L.length/\marks cs.length (L.take y.1)=some y.2/\∀i,i<y.1->nC gen L.length (L.getD i aP.zero)) (λ _=>_) (λ _=>_) (λ y=>[⟨some ⟨x50,0,none⟩,jS y.2,cs.length,4,1⟩]) (λ y=>L.length-y.1) ((0,List.replicate cs.length false)) (⟨Nat.zero_le _,rfl,λ i hi=>absurd hi (Nat.not_lt_zero i)⟩) (λ y f hx=>?_)
           dsimp only[hX,List.map,List.cons_append,List.nil_append]
           have hu:=Ca hx.2.1
           refine J0 ?_;refine Bv ?_;refine aS ?_
           refine bD (λ c55=>?_) (λ c55=>?_)
           · refine rR ?_;refine J0 ?_;refine Ru ?_;refine aJ (λ x7=>?_);refine J5 ?_;refine aS ?_;refine nF ?_;refine aD (c0 (V:=.bool) (hc:=λ w1 hw=>Xk (hw.Qh h.fit (by omega)))) (λ x59 h59=>?_);refine Bq ?_
             (refine dZ 61 (λ g61=>?_) (λ g61=>?_)<;>refine Ka1 ?_)
             all_goals (refine Ci ?_;refine Ax ?_;refine aA ?_)
             all_goals (first|refine aI ?_|(refine dZ 68 (λ g68=>?_) (λ g68=>?_)<;>refine Ka2 ?_))
             all_goals (refine Sb ?_;(first|refine aI ?_|(refine aE ?_;refine aD (c0 (V:=.bool) (hc:=λ w1 hw=>Mp (hw.Qh h.fit (by omega)).brN (hw.Qh h.fit (by omega)).br (hw.Qh h.fit (by omega)).brS)) (λ x73 h73=>?_)));refine Kc1 ?_)
             all_goals
              refine bD (λ c75=>?_) (λ c75=>?_)
              · all_goals refine cS ?_
                all_goals
                 refine aQ Tryz.results117 (λ w hw=>?_)
                 refine⟨false,rfl,⟨(λ h=>nomatch h),λ hp=>?_⟩,hw.done⟩
                 obtain⟨q1,q2,q3⟩:=hp.nodes y.1 (by omega)
                 first|(exfalso;omega)|(have:=h59.2 q1;simp_all;done) 
              · try exact nv c75
                all_goals
                 have hok:nC gen L.length (L.getD y.1 aP.zero):=⟨h59.1 (by simp_all),by omega,h73.1 (by simp_all)⟩
                all_goals (refine aW ?_;refine nF ?_;refine aN (cV (hc:=λ w1 hw=>cw (L.getD y.1 aP.zero).nd w1)) (λ x78=>?_);refine Kb5 ?_;refine pE ?_)
                all_goals
                 refine bD (λ c82=>?_) (λ c82=>?_)
                 · have hmk:eR (some y.2) (L.getD y.1 aP.zero).nd=some y.2:=by
                    have e:gE (L.getD y.1 aP.zero).nd=none:=by cases hq:gE (L.getD y.1 aP.zero).nd<;>simp_all
                    simp only[eR,e]
                   refine bR rfl ?_;refine nk ?_;refine M2 ?_
                   refine jG ((y.1+1,(eR (some y.2) (L.getD y.1 aP.zero).nd).getD y.2)) ?_ (hw1:=λ w hw=>by rw[hmk];exact hw.back)
                   · refine⟨by omega,by rw[nX (by omega),hx.2.1,hmk];rfl,λ i hi=>?_⟩
                     rcases Nat.lt_succ_iff_lt_or_eq.1 hi with h|rfl
                     · exact hx.2.2 i h
                     · exact hok
                 · obtain⟨c,hc⟩:∃c,gE (L.getD y.1 aP.zero).nd=some c:=Option.isSome_iff_exists.1 c82
                   rw[hc,Option.getD_some]
                   refine kO ?_;refine J2 ?_;refine Bu ?_
                   (refine dZ 85 (λ g85=>?_) (λ g85=>?_)<;>refine Ka0 ?_)
                   all_goals (refine Sb ?_;refine Ax ?_;refine aA ?_)
                   all_goals (first|refine aI ?_|(refine dZ 92 (λ g92=>?_) (λ g92=>?_)<;>refine Ka0 ?_))
                   all_goals (refine Ka0 ?_;(first|refine aI ?_|(refine aE ?_;refine aC (L3 rf rf (by omega) (by omega)) rfl ?_));(first|refine aI ?_|(refine aE ?_;refine aC (oU rf rf gH fZ fin (by omega) (by omega)) rfl ?_));(first|refine aI ?_|(refine aE ?_;refine aC (Bj rf fZ fin (by omega)) rfl ?_));refine bX ?_;refine aG ?_)
                   all_goals
                    refine bD (λ c98=>?_) (λ c98=>?_)
                    · all_goals refine cS ?_
                      all_goals
                       refine aQ Tryz.results117 (λ w hw=>?_)
                       refine⟨false,rfl,⟨(λ h=>nomatch h),λ hp=>?_⟩,hw.done⟩
                       have hm:marks cs.length (L.take (y.1+1))=none:=by
                        rw[nX (by omega),hx.2.1]
                        simp only[eR,hc]
                        refine if_neg λ hh=>?_
                        obtain⟨q1,q2,q3⟩:=hh
                        first|(exfalso;omega)|(exfalso;rw[q3] at c98;cases c98)
                       exact absurd (F6 hm) hp.marks
                    · try exact nv c98
                      all_goals
                       have hmk:eR (some y.2) (L.getD y.1 aP.zero).nd=some (y.2.set (c-1).toNat true):=by
                        simp only[eR,hc]
                        rw[if_pos ⟨by omega,by omega,c98⟩]
                      all_goals (refine aW ?_;refine Jc ?_;refine aC (L3 rf rf (by omega) (by omega)) rfl ?_;refine aC (oU rf rf gH fZ fin (by omega) (by omega)) rfl ?_;refine J5 ?_;refine fG ?_;refine nk ?_;refine M2 ?_)
                      all_goals
                       refine jG ((y.1+1,(eR (some y.2) (L.getD y.1 aP.zero).nd).getD y.2)) ?_ (hw1:=λ w hw=>by rw[hmk];exact hw.back)
                       · refine⟨by omega,by rw[nX (by omega),hx.2.1,hmk];rfl,λ i hi=>?_⟩
                         rcases Nat.lt_succ_iff_lt_or_eq.1 hi with h|rfl
                         · exact hx.2.2 i h
                         · exact hok
           · refine bR rfl ?_;refine cS ?_
             refine aQ Tryz.results117 (λ w hw=>?_)
             have hy:y.1=L.length:=by omega
             have hmm:marks cs.length L=some y.2:=by have:=hx.2.1;rwa [hy,List.take_length] at this
             exact⟨true,rfl,⟨λ _=>⟨by omega,by omega,by omega,by omega,hcells,λ i hi=>hx.2.2 i (by omega),by rw[hmm];exact λ h=>nomatch h⟩,λ _=>rfl⟩,hw.done⟩
end

end Go.Proofs.YtbajmaoegmbfgaaGreat
