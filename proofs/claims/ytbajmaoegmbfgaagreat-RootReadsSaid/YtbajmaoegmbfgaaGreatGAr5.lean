/- Nodes of the program's arena are read; lists are cloned; the state is read. -/
import Derived.Test.YtbajmaoegmbfgaaGreatAr4
import Derived.Test.YtbajmaoegmbfgaaGreatGMem
import Derived.Test.YtbajmaoegmbfgaaGreatAuto

set_option linter.unusedSimpArgs false
set_option linter.unusedVariables false
namespace Go.Ct
section
theorem Cl.au{w:Go.World}{cs:List Go.Value}(h:Cl w none cs):cs=[]:=by
 cases cs with
 | nil=>rfl
 | cons v r=>exact absurd (h.ptr (by simp)) (by simp)
theorem V4{l:List Int}(h:aG l=[]):l=[]:=by simpa[aG] using h
theorem Ej{L:List aX}{k:Nat}(h:k<2):aD (dG L) ((k+1:Nat):Int)=fW:=by
 rw[uU (by rw[gE];omega)]
 rcases(show k=0∨k=1 by omega) with rfl|rfl<;>rfl
theorem I6{L:List aX}{k:Nat}(h:2<=k)(h2:k<L.length+2):aD (dG L) ((k+1:Nat):Int)=L.getD (k+1-2-1) aX.zero:=by
 rw[uU (by rw[gE];omega)]
 obtain⟨j,rfl⟩:∃j,k=j+2:=⟨k-2,by omega⟩
 rw[show j+2+1-2-1=j by omega]
 rfl
end
end Go.Ct
namespace Go.Proofs.YtbajmaoegmbfgaaGreat
section
open Go.RowKit Go.Ct
variable{w:World}{D:List Nat}{b:Nat}{L:List aX}{cs:List Int}{gen acc:Int}{pn pc:Option Addr}{cn cc:Nat}{A:Fr}
theorem yZ{l:List Int}{a:Option Addr}{c:Nat}{w:World}(ha:Cl w a (aG l))(hl:l.length<=274877906944):Calls Tryz.prog 84 #[.slice a l.length c] w λ e w' =>
  ∃x:Option Addr×Nat,e=.returned (.slice x.1 l.length x.2)/\True/\SF w [] [] [] [] [⟨x.1,aG l,x.2,37,1⟩] w':=by
 refine enter Tryz.func84 Tryz.ntmps84 rfl rfl (SF.s1 ha) ?_
 simp only[cN]
 all_goals (refine dC ?_;refine lW ?_;refine uS ?_)
 all_goals
 refine bG (λ c4=>?_) (λ c4=>?_)
 ·all_goals
   have e0:a=none:=by cases a with|none=>rfl|some _=>cases c4
   subst e0
   obtain rfl:=V4 ha.au
  all_goals refine dC ?_
  all_goals
   refine aU Tryz.results84 (λ w hw=>?_)
   exact⟨(none,0),rfl,trivial,(hw.mQ 37 1).aS⟩
 ·all_goals (refine bD ?_;refine J0 ?_;refine fD (λ x5=>?_);refine aA ?_;(refine eD (λ x7=>?_);try (refine eA (λ h7=>?_)));refine J1 ?_)
  all_goals
   refine aU Tryz.results84 (λ w hw=>?_)
   exact⟨x7,by simp only[Nat.zero_add];rfl,trivial,by simpa using hw.aS (F':=[]) (H':=[])⟩
theorem Yb(hs:SF w D [(b,aO L cs gen acc pn cn pc cc)] A [] (mW L cs pn cn pc cc) w)(r:Int)(hr:r<1)(hl:L.length<=274877906944) :
  Calls Tryz.prog 36 #[.pointer (some ⟨b,0,none⟩),.int .i64 r] w λ e w'=>∃q:Option Addr×Option Addr,e=.returned ((aD (dG L) r).at_ q.1 q.2).nd.v/\True /\
  SF w D [(b,aO L cs gen acc pn cn pc cc)] [] [] (mW L cs pn cn pc cc++[⟨q.2,dW (aD (dG L) r).ys,(aD (dG L) r).ys.length,164,2⟩,⟨q.1,aG (aD (dG L) r).xs,(aD (dG L) r).xs.length,37,1⟩]) w':=by
 rw[sB (by omega)]
 refine enter Tryz.func36 Tryz.ntmps36 rfl rfl (yB hs) ?_
 simp only[cN]
 all_goals (refine J0 ?_;refine aJ (λ x4=>?_);refine aH ?_;refine lW ?_;refine Ju ?_)
 all_goals ((refine fS 7 (λ g7=>?_) (λ g7=>?_)<;>(try (exfalso;omega))<;>(refine aN ?_)))
 all_goals ((refine aN ?_);(refine aN ?_);refine I3 ?_;refine aH ?_)
 all_goals
 refine bG (λ c12=>?_) (λ c12=>?_)
 ·all_goals try (exfalso;omega)
  all_goals (refine J0 ?_;refine wJ ?_)
  all_goals
   refine bE Tryz.results36 (λ w hw=>?_)
   exact⟨(none,none),rfl,trivial,(hw.vw 164 2 37 1).aS⟩
 ·exact nv c12
theorem X4(hs:SF w D [(b,aO L cs gen acc pn cn pc cc)] (aR L) [] (mW L cs pn cn pc cc) w)(hf:Fits L){k:Nat}(hk:(k:Int)<9223372036854775807)(hl:L.length<=274877906944) :
  Calls Tryz.prog 36 #[.pointer (some ⟨b,0,none⟩),.int .i64 ((k+1:Nat):Int)] w λ e w'=>∃q:Option Addr×Option Addr,e=.returned ((aD (dG L) ((k+1:Nat):Int)).at_ q.1 q.2).nd.v/\True /\
  SF w D [(b,aO L cs gen acc pn cn pc cc)] [] [] (mW L cs pn cn pc cc++[⟨q.2,dW (aD (dG L) ((k+1:Nat):Int)).ys,(aD (dG L) ((k+1:Nat):Int)).ys.length,164,2⟩,⟨q.1,aG (aD (dG L) ((k+1:Nat):Int)).xs,(aD (dG L) ((k+1:Nat):Int)).xs.length,37,1⟩]) w':=by
 refine enter Tryz.func36 Tryz.ntmps36 rfl rfl (yB hs) ?_
 simp only[cN]
 all_goals (refine J0 ?_;refine aJ (λ x4=>?_);refine aH ?_;refine lW ?_;refine Ju ?_)
 all_goals ((refine aF ?_;refine aA ?_))
 all_goals (((refine aF ?_;refine aA ?_));((refine aF ?_;refine aC (cM (hc:=λ w hs=>nI (m:=L.length) hs (by omega))) (λ x10 h10=>?_)));refine I3 ?_;refine aH ?_)
 all_goals
 refine bG (λ c12=>?_) (λ c12=>?_)
 ·all_goals try (exfalso;omega)
  all_goals (refine J0 ?_;refine wJ ?_)
  all_goals
   refine bE Tryz.results36 (λ w hw=>?_)
   exact⟨(none,none),by rw[sB (by rw[gE];omega)];rfl,trivial,by rw[sB (by rw[gE];omega)];exact(hw.vw 164 2 37 1).aS⟩
 ·all_goals try (exfalso;omega)
  all_goals (refine lG ?_;refine J2 ?_;refine zO ?_;refine aH ?_)
  all_goals
   refine bG (λ c15=>?_) (λ c15=>?_)
   ·all_goals try (exfalso;omega)
    all_goals (refine J0 ?_;refine wJ ?_)
    all_goals
    refine bE Tryz.results36 (λ w hw=>?_)
    exact⟨(none,none),by rw[Ej (by omega)];rfl,trivial,by rw[Ej (by omega)];exact(hw.vw 164 2 37 1).aS⟩
   ·all_goals try (exfalso;omega)
    all_goals (refine Qi ?_;refine aA ?_;refine aB (by first|exact gJ (n:=2) rf rf (by omega) (by omega)|exact S8 rf rf (by omega) (by omega)) rfl ?_;refine aB (by first|exact gJ (n:=2) rf rf (by omega) (by omega)|exact S8 rf rf (by omega) (by omega)) rfl ?_;refine S9 ?_;refine aC (P8 (Hc:=λ _=>[]) (Fc:=λ _=>[]) (V:=λ p:Option Addr×Option Addr=>((L.getD (k+1-2-1) aX.zero).at_ p.1 p.2).nd.v) (hc:=λ w1 hw=>Sv (hw.zh hf (by omega)) (hf.at (by omega)).brS (hf.at (by omega)).prS)) (λ x26 h26=>?_);refine J5 ?_)
    all_goals
    refine bE Tryz.results36 (λ w hw=>?_)
    exact⟨x26,by rw[I6 (by omega) (by omega)];rfl,trivial,by rw[I6 (by omega) (by omega)];exact hw.toEnd.aS⟩
end

/- The arena's state is read. -/
section
open Go.RowKit Go.Ct
variable{w:World}{D:List Nat}{b:Nat}{L:List aX}{cs:List Int}{gen acc:Int}{pn pc:Option Addr}{cn cc:Nat}{A:Fr}
theorem Li(hs:SF w D [(b,aO L cs gen acc pn cn pc cc)] (aR L) [] (mW L cs pn cn pc cc) w)(hf:Fits L)(r:Int)(hr:r<=9223372036854775807)(hl:L.length<=274877906944) :
  Calls Tryz.prog 36 #[.pointer (some ⟨b,0,none⟩),.int .i64 r] w λ e w'=>∃q:Option Addr×Option Addr,e=.returned (.agg ⟨((aD (dG L) r).at_ q.1 q.2).nd.cells⟩)/\True /\
  SF w D [(b,aO L cs gen acc pn cn pc cc)] [] [] (mW L cs pn cn pc cc++[⟨q.2,dW (aD (dG L) r).ys,(aD (dG L) r).ys.length,164,2⟩,⟨q.1,aG (aD (dG L) r).xs,(aD (dG L) r).xs.length,37,1⟩]) w':=by
 rcases Int.lt_or_le r 1 with h|h
 ·exact Yb hs r h hl
 ·obtain⟨k,rfl⟩:∃k:Nat,r=((k+1:Nat):Int):=⟨(r-1).toNat,by omega⟩
  exact X4 hs hf (by omega) hl
theorem G9(hs:SF w D [(b,aO L cs gen acc pn cn pc cc)] (aR L) [] (mW L cs pn cn pc cc) w)(hf:Fits L)(hl:L.length<=274877906944)(hc:cs.length<=274877906944) :
    Calls Tryz.prog 32 #[.pointer (some ⟨b,0,none⟩)] w λ e w'=>∃x:List aX×(Option Addr×Nat)×(Option Addr×Nat),e=.returned (.agg ⟨[.slice x.2.1.1 x.1.length x.2.1.2,.slice x.2.2.1 cs.length x.2.2.2,.int .i64 gen]⟩) /\
      (x.1.map aX.c=(dG L).map aX.c/\Fits x.1) /\
    SF w D [(b,aO L cs gen acc pn cn pc cc)] [] (aR x.1) (mW L cs pn cn pc cc++[⟨x.2.1.1,iO x.1,x.2.1.2,47,14⟩,⟨x.2.2.1,aG cs,x.2.2.2,37,1⟩]) w':=by
  refine enter Tryz.func32 Tryz.ntmps32 rfl rfl (yB hs) ?_
  simp only[cN]
  all_goals (refine J0 ?_;refine aJ (λ x2=>?_);refine Hs ?_)
  all_goals
   refine eZ [3,5,6,7,8,9,10,11,12,13,14] (λ j:Nat×Option Addr×Nat=>[(3,.pointer (some ⟨j.1,0,none⟩))]) (λ _=>True) (λ j=>[(j.1,.cells ⟨[.slice none 0 0,.slice j.2.1 cs.length j.2.2,.int .i64 gen]⟩ 52 (0,0)),(x2,.cells ⟨[.slice none 0 0,.slice none 0 0,.int .i64 0]⟩ 52 (0,0)),(b,aO L cs gen acc pn cn pc cc)]) (λ _=>[]) (λ j=>[⟨j.2.1,aG cs,j.2.2,37,1⟩,⟨pn,iO L,cn,47,14⟩,⟨pc,aG cs,cc,37,1⟩]) (by decide) (λ _=>by exact rfl) ?_ (λ j f hx=>?_)
   · refine iE (.one 0 [] (.one 1 [] (.one 2 [] (.one 3 [] (.one 5 [] (.one 6 [] (.one 7 [] (.one 8 [] (.two 4 [8] (.one 9 [] (.one 10 [3,8] (.one 11 [] .nil))) 0 [] (.two 10 [3,8] (.one 4 [8] (.one 9 [] (.one 11 [] .nil))) 0 [] .nil)))))))))) ?_
     all_goals refine qC ?_
     all_goals
      refine iM (E:=[4,10]) (by decide +kernel) ((.cons ?_ (.cons ?_ .nil)))
      · refine lJ (i:=4) (hq:=(P8 (Hc:=λ _=>[]) (Fc:=λ _=>[]) (hc:=λ w1 hw=>yZ (hw.cl fin) hc))) (h:=λ x9 h9=>?_)
        all_goals (refine iK ?_;refine iD (h:=λ x3=>?_);refine wB ?_)
        all_goals
         refine fR ((x3,x9.1,x9.2)) ?_
         · trivial
      · refine hY (i:=10) (h:=λ x3=>?_)
        all_goals (refine bA (i:=4) (hq:=(P8 (Hc:=λ _=>[]) (Fc:=λ _=>[]) (hc:=λ w1 hw=>yZ (hw.cl fin) hc))) (h:=λ x9 h9=>?_);refine iK ?_;refine wB ?_)
        all_goals
         refine fR ((x3,x9.1,x9.2)) ?_
         · trivial
   dsimp only[iL,List.map,List.cons_append,List.nil_append]
  all_goals (refine J2 ?_;refine aC (cM (hc:=λ w hs=>nI (m:=L.length) hs (by omega))) (λ x16 h16=>?_);refine qU (λ x17=>?_);refine qB ?_;refine lW ?_;refine aC (cM (hc:=λ w hs=>nI (m:=L.length) hs (by omega))) (λ x20 h20=>?_);refine B5 ?_;refine dE ?_)
  all_goals
   refine oR [4,21,22,23,24,25,26,27,28,29,30,31,32,33] (λ y:List aX×Option Addr×Nat=>[(21,.int .i64 ((y.1.length:Nat):Int))]) (λ y=>y.1.map aX.c=((dG L).take y.1.length).map aX.c/\y.1.length<=L.length+2/\Fits y.1) (λ y=>[(j.1,.cells ⟨[.slice y.2.1 y.1.length y.2.2,.slice j.2.1 cs.length j.2.2,.int .i64 gen]⟩ 52 (0,0)),(x2,.cells ⟨[.slice none 0 0,.slice none 0 0,.int .i64 0]⟩ 52 (0,0)),(b,aO L cs gen acc pn cn pc cc)]) (λ y=>aR y.1) (λ y=>[⟨y.2.1,iO y.1,y.2.2,47,14⟩,⟨j.2.1,aG cs,j.2.2,37,1⟩,⟨pn,iO L,cn,47,14⟩,⟨pc,aG cs,cc,37,1⟩]) (λ y=>L.length+2-y.1.length) (([],some ⟨x17,0,none⟩,L.length+2)) (⟨rfl,Nat.zero_le _,λ _ h=>(List.not_mem_nil h).elim⟩) (λ y f hx=>?_) (hw0:=λ w hw=>hw.back)
   dsimp only[iL,List.map,List.cons_append,List.nil_append]
   all_goals (refine J0 ?_;refine yQ ?_;refine aW ?_)
   all_goals
    refine bG (λ c22=>?_) (λ c22=>?_)
    · all_goals (refine qD ?_;refine J2 ?_;refine J1 ?_;refine dX [(0,[]),(1,[]),(2,[]),(3,[]),(4,[]),(5,[1]),(6,[1]),(7,[]),(8,[]),(9,[])] ?_;refine nA ?_;refine iP ?_;refine aAb ?_;refine bA (i:=5) (hq:=(cMO (hc:=λ w hs=>Li hs hf ((y.1.length+1:Nat):Int) (by omega) hl))) (h:=λ x29 h29=>?_);refine bL (h:=λ x30=>?_);((refine cL (i:=7) (hq:=(aM.eJ (Sl ((aD (dG L) ((y.1.length+1:Nat):Int)).at_ x29.1 x29.2) rf rf dV rfl fin Iu rfl gK om) dU)) (h:=λ x31=>?_);try (refine cW (λ h31=>?_))));refine aT ?_;refine wB ?_;refine fT ?_;refine Ss ?_;refine B5 ?_)
      all_goals
       refine jJ ((y.1++[(aD (dG L) ((y.1.length+1:Nat):Int)).at_ x29.1 x29.2],x31.1,x31.2)) ?_ (hw1:=λ w hw=>by
          have h2:=(hw.freeze .head).freeze .head
          simp only[oE] at h2
          have h3:=h2.ru (L:=y.1) (v:=(aD (dG L) ((y.1.length+1:Nat):Int)).at_ x29.1 x29.2) (F':=[]) (List.mem_cons_self ..) (List.mem_cons_of_mem _ (List.mem_cons_self ..)) (λ f hf=>List.mem_cons_of_mem _ (List.mem_cons_of_mem _ (List.mem_cons_of_mem _ hf)))
          simpa using h3) (hμ:=by simp only[List.length_append,List.length_cons,List.length_nil];omega)
       · have hlt:y.1.length<(dG L).length:=by rw[gE];omega
         refine⟨?_,by simp only[List.length_append,List.length_cons,List.length_nil];omega,λ v hv=>?_⟩
         · rw[List.map_append,hx.1,List.length_append,List.length_singleton,List.take_succ_eq_append_getElem hlt,List.map_append,uU hlt,lB,List.getElem?_eq_getElem hlt]
           rfl
         · rcases List.mem_append.1 hv with hv|hv
           · exact hx.2.2 v hv
           · simp only[List.mem_singleton] at hv
             subst hv
             exact aX.dk (Wa hf.all _) _ _
    · all_goals (refine bV rfl ?_;refine qF ?_;refine J5 ?_)
      all_goals
       refine bE Tryz.results32 (λ w hw=>?_)
       have hlen:y.1.length=L.length+2:=by omega
       refine⟨(y.1,(y.2.1,y.2.2),(j.2.1,j.2.2)),rfl,⟨by rw[hx.1,hlen,List.take_of_length_le (by rw[gE];omega)],hx.2.2⟩,?_⟩
       exact(SF.toEnd hw).ret (by repeat (first|exact List.Sublist.refl _|apply List.Sublist.cons)) aV.all (List.Sublist.refl _)
end

/- Lists and the smallest functions of nodes. -/
section
open Go.RowKit Go.Ct
theorem aAg (n : Nd) (w : World) : Calls Tryz.prog 197 #[n.v] w fun e w' => e = .returned n.own.v ∧ St w [] [] w' := by
  refine enter Tryz.func197 Tryz.ntmps197 rfl rfl (SF.s0 w) ?_
  simp only [cN]
  all_goals (refine J0 ?_; refine bW (fun x1 => ?_); refine aJ (fun x2 => ?_); refine aH ?_; refine iZ ?_; refine bO ?_; refine aJ (fun x3 => ?_); refine J5 ?_; refine Cs ?_; refine aH ?_; refine dE ?_; refine Da ?_; refine Da ?_; refine Da ?_; refine Da ?_; refine Da ?_; refine Da ?_; refine Da ?_; refine aW ?_; refine aW ?_; refine lR ?_)
  all_goals
   refine bG (fun c9 => ?_) (fun c9 => ?_)
   · all_goals (refine bV rfl ?_; refine aW ?_; refine dX [(0, []), (1, []), (2, []), (3, []), (4, []), (5, [3]), (6, []), (7, [])] ?_; refine nA ?_; refine nA ?_; refine aT ?_; refine Rb ?_; refine wB ?_; refine bV rfl ?_; refine qF ?_; refine J5 ?_)
     all_goals
      refine bE Tryz.results197 (fun w hw => ?_)
      exact ⟨by simp only [Nd.own, beq_iff_eq, *, if_true, if_false]; rfl, hw.done⟩
   · all_goals (refine lG ?_; refine lR ?_)
     all_goals
      refine bG (fun c11 => ?_) (fun c11 => ?_)
      · all_goals (refine bV rfl ?_; refine aW ?_; refine dX [(0, []), (1, []), (2, []), (3, []), (4, []), (5, []), (6, []), (7, [3, 5]), (8, []), (9, [5]), (10, []), (11, [])] ?_; refine nA ?_; refine nA ?_; refine nA ?_; refine aT ?_; refine Rb ?_; refine Rb ?_; refine wB ?_; refine bV rfl ?_; refine qF ?_; refine J5 ?_)
        all_goals
         refine bE Tryz.results197 (fun w hw => ?_)
         exact ⟨by simp only [Nd.own, beq_iff_eq, *, if_true, if_false]; rfl, hw.done⟩
      · all_goals (refine lG ?_; refine lR ?_)
        all_goals
         refine bG (fun c13 => ?_) (fun c13 => ?_)
         · all_goals (refine bV rfl ?_; refine eR ?_; refine J3 ?_; refine qB ?_; refine fT ?_; refine aW ?_; refine dX [(0, []), (1, []), (2, []), (3, []), (4, []), (5, []), (6, []), (7, [3, 5]), (8, []), (9, [5]), (10, []), (11, [])] ?_; refine nA ?_; refine nA ?_; refine nA ?_; refine aT ?_; refine Rb ?_; refine Rb ?_; refine wB ?_; refine bV rfl ?_; refine qF ?_; refine J5 ?_)
           all_goals
            refine bE Tryz.results197 (fun w hw => ?_)
            exact ⟨by simp only [Nd.own, beq_iff_eq, *, if_true, if_false]; rfl, hw.done⟩
         · all_goals (refine lG ?_; refine lR ?_)
           all_goals
            refine bG (fun c15 => ?_) (fun c15 => ?_)
            · all_goals (refine bV rfl ?_; refine aW ?_; refine dX [(0, []), (1, []), (2, []), (3, []), (4, []), (5, []), (6, []), (7, [3, 5]), (8, []), (9, [5]), (10, []), (11, [])] ?_; refine nA ?_; refine nA ?_; refine nA ?_; refine aT ?_; refine Rb ?_; refine Rb ?_; refine wB ?_; refine bV rfl ?_; refine qF ?_; refine J5 ?_)
              all_goals
               refine bE Tryz.results197 (fun w hw => ?_)
               exact ⟨by simp only [Nd.own, beq_iff_eq, *, if_true, if_false]; rfl, hw.done⟩
            · all_goals (refine lG ?_; refine lR ?_)
              all_goals
               refine bG (fun c17 => ?_) (fun c17 => ?_)
               · all_goals (refine bV rfl ?_; refine aW ?_; refine dX [(0, []), (1, []), (2, []), (3, []), (4, []), (5, []), (6, []), (7, [3, 5]), (8, []), (9, [5]), (10, []), (11, [])] ?_; refine nA ?_; refine nA ?_; refine nA ?_; refine aT ?_; refine Rb ?_; refine Rb ?_; refine wB ?_; refine bV rfl ?_; refine qF ?_; refine J5 ?_)
                 all_goals
                  refine bE Tryz.results197 (fun w hw => ?_)
                  exact ⟨by simp only [Nd.own, beq_iff_eq, *, if_true, if_false]; rfl, hw.done⟩
               · all_goals (refine lG ?_; refine lR ?_)
                 all_goals
                  refine bG (fun c19 => ?_) (fun c19 => ?_)
                  · all_goals (refine bV rfl ?_; refine dX [(0, []), (1, []), (2, []), (3, []), (4, []), (5, []), (6, []), (7, [3, 5]), (8, []), (9, [5]), (10, []), (11, [])] ?_; refine nA ?_; refine nA ?_; refine nA ?_; refine aT ?_; refine Rb ?_; refine Rb ?_; refine wB ?_; refine fT ?_; refine iZ ?_; refine qB ?_; refine bV rfl ?_; refine qF ?_; refine J5 ?_)
                    all_goals
                     refine bE Tryz.results197 (fun w hw => ?_)
                     exact ⟨by simp only [Nd.own, beq_iff_eq, *, if_true, if_false]; rfl, hw.done⟩
                  · all_goals (refine bD ?_; refine lR ?_)
                    all_goals
                     refine bG (fun c21 => ?_) (fun c21 => ?_)
                     · all_goals (refine bV rfl ?_; refine iZ ?_; refine qB ?_; refine bV rfl ?_; refine qF ?_; refine J5 ?_)
                       all_goals
                        refine bE Tryz.results197 (fun w hw => ?_)
                        exact ⟨by simp only [Nd.own, beq_iff_eq, *, if_true, if_false]; rfl, hw.done⟩
                     · all_goals (refine bD ?_; refine bV rfl ?_; refine qF ?_; refine J5 ?_)
                       all_goals
                        refine bE Tryz.results197 (fun w hw => ?_)
                        exact ⟨by simp only [Nd.own, beq_iff_eq, *, if_true, if_false]; rfl, hw.done⟩
end

end Go.Proofs.YtbajmaoegmbfgaaGreat
